/- Joined texts of this claim, in build order. -/
import Derived.Test.YtoedkemjidgbeaaMg1
/- The reference's device: Read, Cut, Rename. -/
namespace Go.Proofs.Ytoedkemjidgbeaa.Dk
open Go Go.RowKit Go.Proofs.YtoedkemjidgbeaaW.PrintWords Go.Proofs.YtoedkemjidgbeaaW.PrintLast Go.Proofs.YtoedkemjidgbeaaW.PrintMore Go.Proofs.YtoedkemjidgbeaaMy Go.Proofs.Ytoedkemjidgbeaa Go.Proofs.YtoedkemjidgbeaaPw Go.Proofs.Ytoedkemjidgbeaa.PAll
set_option linter.unusedVariables false
set_option linter.unusedSimpArgs false
section
variable {S S1 : Nat → Prop} {W W1 w : World} {g : Nat} {d : DS} {v v1 : Value}
set_option maxHeartbeats 2000000 in
set_option maxRecDepth 100000 in
theorem RRead_Q (h : RefW S w g d v) (hg : d.RG) (s : ByteArray) : Calls Try.prog 31 #[.pointer (some ⟨g, 0, none⟩), .string s] w fun e w' => e = .returned (.tuple #[.string (strOfNums (d.read s).1), .int .i64 (d.read s).2]) ∧ Below w.heap.size w w' := by
  have HM := Aside0.mk (RMay_Q h s true hg.len)
  have HW := Aside0.mk h
  have HG := Aside0.mk hg
  unfold DS.read
  rcases there_cases d s with ht | ⟨c1, c2, c3⟩
  · rw [if_neg (fun h => h ht)]
    rw [ht] at HM
    obtain ⟨f, i, hi, hat, hfi, hfo, hnm⟩ := there_at ht
    subst hnm
    obtain ⟨A, c, ev, hall⟩ := h.file
    obtain ⟨ad, ea, hrest⟩ := hall i hi
    clear hrest
    subst ev
    subst ea
    rw [hfo]
    have HI := Aside0.mk hi
    have HAt := Aside0.mk hat
    have HFi := Aside0.mk (show d.files[i]? = some f by rw [List.getElem?_eq_getElem hi, hfi])
    clear h hg ht hall hfi hfo hat hi
    obtain ⟨bt, hbt⟩ : ∃ b, b = strOfNums f.b := ⟨_, rfl⟩
    have HBt := Aside0.mk hbt
    rw [← hbt]
    clear hbt
    obtain ⟨n, hn⟩ : ∃ n, n = d.files.length := ⟨_, rfl⟩
    have HN := Aside0.mk hn
    rw [← hn] at HW HI
    have hi1 : (0 : Int) ≤ (i : Int) := Int.natCast_nonneg _
    have hi2 : (i : Int) < (n : Int) := Int.ofNat_lt.2 HI.out
    have hi3 : i < n := HI.out
    clear hn
    go_enter Try.func31, Try.ntmps31
    go_wp2_with (first
      | (go_at_call 50; refine HM.out.mono ?_; rintro e w1 ⟨rfl, hb⟩; have hr := HW.out.below hb; have z0 : w1.cell? ⟨g, 0, none⟩ = some (.slice (some ad) n c) := hr.cell 0; have HA := Aside0.mk (fun w' (hb : Below w1.heap.size w1 w') => hr.atQ HAt.out HG.out.len hb); obtain ⟨x0, x1, x2⟩ := hr.fileAt HFi.out HBt.out; have HB := Aside0.mk hb; clear hb hr HM))
    refine start_ (n := 12) (S := fun w' => w'.cell? ⟨g, 0, none⟩ = some (.slice (some ad) n c) ∧ w'.cell? (ad.add (i * 3)) = some (.string f.name) ∧ w'.cell? ⟨(ad.add (i * 3)).block, (ad.add (i * 3)).off + 1, none⟩ = some (.string bt) ∧ w'.cell? ⟨(ad.add (i * 3)).block, (ad.add (i * 3)).off + 2, none⟩ = some (.int .i64 (f.safe : Int))) (ds := [11]) #[false, false, false, false, false, false, false, false, false, false, false, false] (by kernel_rfl) rfl rfl ⟨z0, x0, x1, x2⟩ (fun hHeld => ?_)
    refine pure_ (i := 0) (N := some 13) (v := ?_) (a' := ?_) #[true, false, false, false, false, false, false, false, false, false, false, false] rfl rfl (by kernel_rfl) (fun _ _ _ h => h) (Or.inl ⟨by rfl, ?_⟩) ?_ ?_
    rotate_left
    · intro w'
      go_simp
      with_reducible rfl
    rotate_left
    · simp only [Act.put, List.setIfInBounds_toArray, List.set_cons_zero, List.set_cons_succ, i64_w, i32_w]
      rfl
    refine pure_ (i := 1) (N := some 14) (v := ?_) (a' := ?_) #[true, true, false, false, false, false, false, false, false, false, false, false] rfl rfl (by kernel_rfl) (fun _ _ _ h => h) (Or.inl ⟨by rfl, ?_⟩) ?_ ?_
    rotate_left
    · intro w'
      go_simp
      with_reducible rfl
    rotate_left
    · simp only [Act.put, List.setIfInBounds_toArray, List.set_cons_zero, List.set_cons_succ, i64_w, i32_w]
      rfl
    refine pure_ (i := 2) (N := some 15) (v := ?_) (a' := ?_) #[true, true, true, false, false, false, false, false, false, false, false, false] rfl rfl (by kernel_rfl) (fun _ _ _ h => h) (Or.inl ⟨by rfl, ?_⟩) ?_ ?_
    rotate_left
    · intro w'
      go_simp
      with_reducible rfl
    rotate_left
    · simp only [Act.put, List.setIfInBounds_toArray, List.set_cons_zero, List.set_cons_succ, i64_w, i32_w]
      rfl
    refine take_ (i := 3) (N := some 16) (v := ?_) (a' := ?_) #[true, true, true, true, false, false, false, false, false, false, false, false] rfl rfl (by kernel_rfl) (fun _ _ _ h => h) (Or.inl ⟨by rfl, ?_⟩) hHeld ?_ ?_
    rotate_left
    · intro w' s0
      obtain ⟨y0, y1, y2, y3⟩ := s0
      go_simp
      with_reducible rfl
    rotate_left
    · simp only [Act.put, List.setIfInBounds_toArray, List.set_cons_zero, List.set_cons_succ, i64_w, i32_w]
      rfl
    refine pure_ (i := 4) (N := some 17) (v := ?_) (a' := ?_) #[true, true, true, true, true, false, false, false, false, false, false, false] rfl rfl (by kernel_rfl) (fun _ _ _ h => h) (Or.inl ⟨by rfl, ?_⟩) ?_ ?_
    rotate_left
    · intro w'
      go_simp
      with_reducible rfl
    rotate_left
    · simp only [Act.put, List.setIfInBounds_toArray, List.set_cons_zero, List.set_cons_succ, i64_w, i32_w]
      rfl
    refine pure_ (i := 5) (N := some 18) (v := ?_) (a' := ?_) #[true, true, true, true, true, true, false, false, false, false, false, false] rfl rfl (by kernel_rfl) (fun _ _ _ h => h) (Or.inl ⟨by rfl, ?_⟩) ?_ ?_
    rotate_left
    · intro w'
      go_simp
      with_reducible rfl
    rotate_left
    · simp only [Act.put, List.setIfInBounds_toArray, List.set_cons_zero, List.set_cons_succ, i64_w, i32_w]
      rfl
    clear hHeld
    refine one_ (i := 6) (N := some 19) #[true, true, true, true, true, true, true, false, false, false, false, false] rfl rfl (by kernel_rfl) (by decide) (fun K hK => ?_)
    refine goes_ Try.func51 (by kernel_rfl) rfl #[.pointer (some ⟨g, 0, none⟩), .string f.name] (by rfl) rfl rfl (by (try simp only [List.map_toArray, List.map_cons, List.map_nil]); first | done | rfl) ?_
    refine (HA.out _ (below_drew1 (Below.refl _ _))).mono ?_
    rintro e w3 ⟨rfl, hb3⟩
    refine ⟨_, rfl, ?_⟩
    have hbw : Below w1.heap.size w1 w3 := (below_drew1 (Below.refl _ _)).trans hb3
    have hS3 := And.intro (pw_cell_below hbw z0) (And.intro (pw_cell_below hbw x0) (And.intro (pw_cell_below hbw x1) (pw_cell_below hbw x2)))
    refine hK.out _ _ hS3 (fun hHeld => ?_)
    clear hK K
    refine norm_ (a' := ?_) ?_ ?_
    rotate_left
    · show Act.put _ (some 19) _ = _
      simp only [Act.put, List.setIfInBounds_toArray, List.set_cons_zero, List.set_cons_succ, i64_w, i32_w]
      rfl
    refine pure_ (i := 7) (N := some 20) (v := ?_) (a' := ?_) #[true, true, true, true, true, true, true, true, false, false, false, false] rfl rfl (by kernel_rfl) (fun _ _ _ h => h) (Or.inl ⟨by rfl, ?_⟩) ?_ ?_
    rotate_left
    · intro w'
      go_simp
      with_reducible rfl
    rotate_left
    · simp only [Act.put, List.setIfInBounds_toArray, List.set_cons_zero, List.set_cons_succ, i64_w, i32_w]
      rfl
    refine pure_ (i := 8) (N := some 21) (v := ?_) (a' := ?_) #[true, true, true, true, true, true, true, true, true, false, false, false] rfl rfl (by kernel_rfl) (fun _ _ _ h => h) (Or.inl ⟨by rfl, ?_⟩) ?_ ?_
    rotate_left
    · intro w'
      go_simp
      with_reducible rfl
    rotate_left
    · simp only [Act.put, List.setIfInBounds_toArray, List.set_cons_zero, List.set_cons_succ, i64_w, i32_w]
      rfl
    refine take_ (i := 9) (N := some 22) (v := ?_) (a' := ?_) #[true, true, true, true, true, true, true, true, true, true, false, false] rfl rfl (by kernel_rfl) (fun _ _ _ h => h) (Or.inl ⟨by rfl, ?_⟩) hHeld ?_ ?_
    rotate_left
    · intro w' s0
      obtain ⟨y0, y1, y2, y3⟩ := s0
      go_simp
      with_reducible rfl
    rotate_left
    · simp only [Act.put, List.setIfInBounds_toArray, List.set_cons_zero, List.set_cons_succ, i64_w, i32_w]
      rfl
    refine pure_ (i := 10) (N := some 4) (v := ?_) (a' := ?_) #[true, true, true, true, true, true, true, true, true, true, true, false] rfl rfl (by kernel_rfl) (fun _ _ _ h => h) (Or.inl ⟨by rfl, ?_⟩) ?_ ?_
    rotate_left
    · intro w'
      go_simp
      with_reducible rfl
    rotate_left
    · simp only [Act.put, List.setIfInBounds_toArray, List.set_cons_zero, List.set_cons_succ, i64_w, i32_w]
      rfl
    refine last_ (i := 11) (N := some 5) #[true, true, true, true, true, true, true, true, true, true, true, true] rfl rfl (by kernel_rfl) (by decide) (fun K hK => ?_)
    rw [if_pos (by rfl)]
    go_simp
    refine hK.out _ _ ?_
    clear hK K
    refine done_ (by kernel_rfl) ?_
    go_wp2
    go_ret2
    exact ⟨rfl, HB.out.trans (hbw.mono HB.out.size)⟩
  · rw [if_pos c3]
    obtain ⟨r, hr⟩ : ∃ r, r = d.there s := ⟨_, rfl⟩
    rw [← hr] at c1 c2 HM ⊢
    clear hr c3 h
    go_enter Try.func31, Try.ntmps31
    go_wp2_with (first
      | (go_at_call 50; refine HM.out.mono ?_; rintro e w1 ⟨rfl, hb⟩; have HB := Aside0.mk hb; clear hb HM))
    go_ret2
    exact ⟨rfl, HB.out⟩
end
def DS.rcut (d : DS) (s : ByteArray) (n : Int) : Int × DS := if d.there s ≠ 0 then (d.there s, d) else if n < 0 then (1, d) else d.fall fun e => e.rput (cutTo (e.fileOr s) n)
def DS.rrename (d : DS) (a b : ByteArray) : Int × DS := if d.there a ≠ 0 then (d.there a, d) else if nameOk b = false then (1, d) else d.fall fun e => (e.drop a).rput ⟨b, (e.fileOr a).b, (e.fileOr a).safe⟩
def errIf (go : Bool) : Int := if go then 7 else 0
def endIf (go : Bool) (d : DS) : DS := if go then d.ends else d
theorem fall_eq {d : DS} {F : DS → DS} : d.fall F = if (!d.goes || decide (0 < d.keep)) = true then (errIf d.goes, endIf d.goes (F d.act)) else (errIf d.goes, endIf d.goes d.act) := by
  unfold DS.fall errIf endIf
  cases d.goes with
  | false => rfl
  | true =>
    by_cases c : 0 < d.keep
    · rw [if_pos rfl, if_pos c, if_pos (by rw [decide_eq_true c]; rfl)]; rfl
    · rw [if_pos rfl, if_neg c, if_neg (by rw [decide_eq_false c]; decide)]; rfl
section
variable {S S1 : Nat → Prop} {W W1 w : World} {g : Nat} {d : DS} {v v1 : Value}
theorem Ends_after' {w1 w2 w3 : World} {d2 : DS} (h1 : Below w.heap.size w w1) (o2 : Only S w1 w2) (r3 : RefAt (Grow S w2) w3 g d2) (o3 : Only S w2 w3) (hg : d2.RG) (go : Bool) : Calls Try.prog 58 #[.pointer (some ⟨g, 0, none⟩), .bool go] w3 fun e w' => e = .returned (.int .i64 (errIf go)) ∧ RefAt (Grow S w) w' g (endIf go d2) ∧ Only S w w' := Ends_after h1 o2 r3 o3 hg go
theorem put_after {w2 wx : World} {v : Value} {d2 : DS} (r : RefW S w2 g d2 v) (hb : Below w2.heap.size w2 wx) (f : Fl) {bt : ByteArray} (he : bt = strOfNums f.b) (hl : d2.files.length ≤ 4096) : Calls Try.prog 56 #[.pointer (some ⟨g, 0, none⟩), .agg #[.string f.name, .string bt, .int .i64 (f.safe : Int)]] wx fun e w' => e = .returned (.tuple #[]) ∧ RefAt (Grow S w2) w' g (d2.rput f) ∧ Only S w2 w' := by
  refine (RPut_Q' (r.below hb) f he hl).mono ?_
  rintro e w' ⟨he, hr, ho⟩
  exact ⟨he, hr.lessN hb.size, ((Only.refl S w2).below hb).trans ho⟩
set_option maxHeartbeats 2000000 in
set_option maxRecDepth 100000 in
theorem RCut_Q (h : RefW S w g d v) (hok : d.Ok) (hg : d.RG) (s : ByteArray) (k : Int) (hg2 : d.there s = 0 → (!d.goes || decide (0 < d.keep)) = true → (d.act.rput (cutTo (d.act.fileOr s) k)).RG) : Calls Try.prog 45 #[.pointer (some ⟨g, 0, none⟩), .string s, .int .i64 k] w fun e w' => e = .returned (.int .i64 (d.rcut s k).1) ∧ RefAt (Grow S w) w' g (d.rcut s k).2 ∧ Only S w w' := by
  have HM := Aside0.mk (RMay_Q h s true hg.len)
  have HW := Aside0.mk h
  have HOk := Aside0.mk hok
  have HG := Aside0.mk hg
  unfold DS.rcut
  rcases there_cases d s with ht | ⟨c1, c2, c3⟩
  · rw [if_neg (fun h => h ht)]
    rw [ht] at HM
    have HBg := Aside0.mk (fun w1 (hb : Below w.heap.size w w1) => RBegins_Q (HW.out.below hb) HOk.out)
    obtain ⟨f, i, hi, hat, hfi, hfo, hnm⟩ := there_at ht
    subst hnm
    have HT := Aside0.mk ht
    obtain ⟨A, c, ev, hall⟩ := h.file
    obtain ⟨ad, ea, hrest⟩ := hall i hi
    clear hrest
    subst ev
    subst ea
    have HI := Aside0.mk hi
    have HAt := Aside0.mk hat
    have HFi := Aside0.mk (show d.files[i]? = some f by rw [List.getElem?_eq_getElem hi, hfi])
    have HFo := Aside0.mk hfo
    have HSf := Aside0.mk (HG.out.safe f (by rw [← hfi]; exact List.getElem_mem hi))
    have HFb := Aside0.mk (HG.out.fit.bytes f (by rw [← hfi]; exact List.getElem_mem hi))
    clear h hok hg ht hall hfi hat hi
    obtain ⟨bt, hbt⟩ : ∃ b, b = strOfNums f.b := ⟨_, rfl⟩
    have HBt := Aside0.mk hbt
    obtain ⟨bl, hbl⟩ : ∃ b, b = f.b.length := ⟨_, rfl⟩
    have hsz : bt.size = bl := by rw [hbt, hbl, str_size2]
    have HBl := Aside0.mk hbl
    clear hbt hbl
    obtain ⟨n, hn⟩ : ∃ n, n = d.files.length := ⟨_, rfl⟩
    have HN := Aside0.mk hn
    rw [← hn] at HW HI HBg
    have hi1 : (0 : Int) ≤ (i : Int) := Int.natCast_nonneg _
    have hi2 : (i : Int) < (n : Int) := Int.ofNat_lt.2 HI.out
    have hi3 : i < n := HI.out
    clear hn
    by_cases hbad : k < 0
    · rw [if_pos hbad]
      have hb1 : decide (k < 0) = true := decide_eq_true hbad
      clear hg2
      go_enter Try.func45, Try.ntmps45
      go_wp2_with (first
        | (go_at_call 50; refine HM.out.mono ?_; rintro e w1 ⟨rfl, hb⟩; have HB := Aside0.mk hb; clear hb HM))
      go_ret
      exact ⟨rfl, (HW.out.below HB.out).at.grow, (Only.refl S w).below HB.out⟩
    · rw [if_neg hbad, fall_eq]
      have hb1 : decide (k < 0) = false := decide_eq_false hbad
      obtain ⟨go, hgo⟩ : ∃ b, b = d.goes := ⟨_, rfl⟩
      obtain ⟨dn, hdn⟩ : ∃ b, b = (!d.goes || decide (0 < d.keep)) := ⟨_, rfl⟩
      rw [← hdn, ← hgo] at HBg
      rw [← hdn, ← hgo]
      have HDn := Aside0.mk hdn
      clear hgo hdn
      cases dn with
      | true =>
        have HG2 := Aside0.mk (hg2 HT.out HDn.out.symm)
        rw [if_pos rfl]
        clear hg2
        rw [show d.act.fileOr f.name = f from HFo.out] at HG2 ⊢
        have hk0 : 0 ≤ k := Int.not_lt.1 hbad
        obtain ⟨k1, rfl⟩ := Int.eq_ofNat_of_zero_le hk0
        by_cases hlt : k1 < bl
        · have b1 : decide (k1 < bl) = true := decide_eq_true hlt
          obtain ⟨s1, hs1⟩ : ∃ s, s = strOfNums (f.b.take k1) := ⟨_, rfl⟩
          have hcut := cut_str HFb.out (j := k1) (by rw [← HBl.out]; exact Nat.le_of_lt hlt) HBt.out hs1
          have hsz1 : s1.size = k1 := by rw [hs1, str_size2, List.length_take, Nat.min_eq_left (by rw [← HBl.out]; exact Nat.le_of_lt hlt)]
          have HS1 := Aside0.mk hs1
          have HCt := Aside0.mk (show ∀ sf, sf = min f.safe k1 → cutTo f (k1 : Int) = ⟨f.name, f.b.take k1, sf⟩ from fun sf h => by
            unfold cutTo
            rw [Int.toNat_natCast, List.length_take, Nat.min_eq_left (show k1 ≤ f.b.length by rw [← HBl.out]; exact Nat.le_of_lt hlt), h])
          clear hs1
          by_cases hsf : k1 < f.safe
          · have b2 : decide (k1 < f.safe) = true := decide_eq_true hsf
            have HE := Aside0.mk (HCt.out k1 (Nat.min_eq_right (Nat.le_of_lt hsf)).symm)
            rw [HE.out] at HG2 ⊢
            clear HDn
            go_enter Try.func45, Try.ntmps45
            go_wp2_with (first
              | (go_at_call 50; refine HM.out.mono ?_; rintro e w1 ⟨rfl, hb⟩; have HB := Aside0.mk hb; clear hb HM)
              | (go_at_call 57; refine (HBg.out _ HB.out).mono ?_; rintro e w2 ⟨rfl, hr, ho⟩; have z0 : w2.cell? ⟨g, 0, none⟩ = some (.slice (some ad) n c) := hr.cell 0; have HA := Aside0.mk (fun w' (hb : Below w2.heap.size w2 w') => hr.atQ HAt.out HG.out.len hb); obtain ⟨x0, x1, x2⟩ := hr.fileAt HFi.out HBt.out; have HR := Aside0.mk hr; have HO := Aside0.mk ho; clear hr ho HBg))
            refine start_ (n := 11) (S := fun w' => w'.cell? ⟨g, 0, none⟩ = some (.slice (some ad) n c) ∧ w'.cell? (ad.add (i * 3)) = some (.string f.name) ∧ w'.cell? ⟨(ad.add (i * 3)).block, (ad.add (i * 3)).off + 1, none⟩ = some (.string bt) ∧ w'.cell? ⟨(ad.add (i * 3)).block, (ad.add (i * 3)).off + 2, none⟩ = some (.int .i64 (f.safe : Int))) (ds := [10]) #[false, false, false, false, false, false, false, false, false, false, false] (by kernel_rfl) rfl rfl ⟨z0, x0, x1, x2⟩ (fun hHeld => ?_)
            refine pure_ (i := 0) (N := some 25) (v := ?_) (a' := ?_) #[true, false, false, false, false, false, false, false, false, false, false] rfl rfl (by kernel_rfl) (fun _ _ _ h => h) (Or.inl ⟨by rfl, ?_⟩) ?_ ?_
            rotate_left
            · intro w'
              go_simp
              with_reducible rfl
            rotate_left
            · simp only [Act.put, List.setIfInBounds_toArray, List.set_cons_zero, List.set_cons_succ, i64_w, i32_w]
              rfl
            refine pure_ (i := 1) (N := some 26) (v := ?_) (a' := ?_) #[true, true, false, false, false, false, false, false, false, false, false] rfl rfl (by kernel_rfl) (fun _ _ _ h => h) (Or.inl ⟨by rfl, ?_⟩) ?_ ?_
            rotate_left
            · intro w'
              go_simp
              with_reducible rfl
            rotate_left
            · simp only [Act.put, List.setIfInBounds_toArray, List.set_cons_zero, List.set_cons_succ, i64_w, i32_w]
              rfl
            refine pure_ (i := 2) (N := some 27) (v := ?_) (a' := ?_) #[true, true, true, false, false, false, false, false, false, false, false] rfl rfl (by kernel_rfl) (fun _ _ _ h => h) (Or.inl ⟨by rfl, ?_⟩) ?_ ?_
            rotate_left
            · intro w'
              go_simp
              with_reducible rfl
            rotate_left
            · simp only [Act.put, List.setIfInBounds_toArray, List.set_cons_zero, List.set_cons_succ, i64_w, i32_w]
              rfl
            refine take_ (i := 3) (N := some 28) (v := ?_) (a' := ?_) #[true, true, true, true, false, false, false, false, false, false, false] rfl rfl (by kernel_rfl) (fun _ _ _ h => h) (Or.inl ⟨by rfl, ?_⟩) hHeld ?_ ?_
            rotate_left
            · intro w' s0
              obtain ⟨y0, y1, y2, y3⟩ := s0
              go_simp
              with_reducible rfl
            rotate_left
            · simp only [Act.put, List.setIfInBounds_toArray, List.set_cons_zero, List.set_cons_succ, i64_w, i32_w]
              rfl
            refine pure_ (i := 4) (N := some 29) (v := ?_) (a' := ?_) #[true, true, true, true, true, false, false, false, false, false, false] rfl rfl (by kernel_rfl) (fun _ _ _ h => h) (Or.inl ⟨by rfl, ?_⟩) ?_ ?_
            rotate_left
            · intro w'
              go_simp
              with_reducible rfl
            rotate_left
            · simp only [Act.put, List.setIfInBounds_toArray, List.set_cons_zero, List.set_cons_succ, i64_w, i32_w]
              rfl
            refine pure_ (i := 5) (N := some 30) (v := ?_) (a' := ?_) #[true, true, true, true, true, true, false, false, false, false, false] rfl rfl (by kernel_rfl) (fun _ _ _ h => h) (Or.inl ⟨by rfl, ?_⟩) ?_ ?_
            rotate_left
            · intro w'
              go_simp
              with_reducible rfl
            rotate_left
            · simp only [Act.put, List.setIfInBounds_toArray, List.set_cons_zero, List.set_cons_succ, i64_w, i32_w]
              rfl
            clear hHeld
            refine join_ (σ := Nat) 1 #[true, true, true, true, true, true, true, true, true, true, false] (fun s => [(31, .int .i64 (i : Int)), (32, .pointer (some (ad.add (i * 3)))), (33, .agg #[.string f.name, .string bt, .int .i64 (f.safe : Int)]), (10, .pointer (some ⟨s, 0, none⟩))]) (fun s w' => w'.heap[s]? = some (.cells #[.string ⟨#[]⟩, .string ⟨#[]⟩, .int .i64 0] 75 (0, 0)) ∧ w2.heap.size ≤ s ∧ Below w2.heap.size w2 w' ∧ w'.cell? ⟨g, 0, none⟩ = some (.slice (some ad) n c) ∧ w'.cell? (ad.add (i * 3)) = some (.string f.name) ∧ w'.cell? ⟨(ad.add (i * 3)).block, (ad.add (i * 3)).off + 1, none⟩ = some (.string bt) ∧ w'.cell? ⟨(ad.add (i * 3)).block, (ad.add (i * 3)).off + 2, none⟩ = some (.int .i64 (f.safe : Int))) ?_ ?_
            rotate_left
            · intro hCont
              refine two_ (i := 6) (j := 9) (Ni := some 31) (Nj := some 10) #[true, true, true, true, true, true, true, false, false, false, false] #[true, true, true, true, true, true, false, false, false, true, false] rfl rfl rfl rfl (by kernel_rfl) (by decide) (by decide) (fun K hK => ?_) (fun K hK => ?_)
              · skip
                refine goes_ Try.func51 (by kernel_rfl) rfl #[.pointer (some ⟨g, 0, none⟩), .string f.name] (by rfl) rfl rfl (by (try simp only [List.map_toArray, List.map_cons, List.map_nil]); first | done | rfl) ?_
                refine (HA.out _ (below_drew1 (Below.refl _ _))).mono ?_
                rintro e w3 ⟨rfl, hb3⟩
                refine ⟨_, rfl, ?_⟩
                have hbw : Below w2.heap.size w2 w3 := (below_drew1 (Below.refl _ _)).trans hb3
                have hS3 := And.intro (pw_cell_below hbw z0) (And.intro (pw_cell_below hbw x0) (And.intro (pw_cell_below hbw x1) (pw_cell_below hbw x2)))
                refine hK.out _ _ hS3 (fun hHeld => ?_)
                clear hK K
                refine norm_ (a' := ?_) ?_ ?_
                rotate_left
                · show Act.put _ (some 31) _ = _
                  simp only [Act.put, List.setIfInBounds_toArray, List.set_cons_zero, List.set_cons_succ, i64_w, i32_w]
                  rfl
                refine pure_ (i := 7) (N := some 32) (v := ?_) (a' := ?_) #[true, true, true, true, true, true, true, true, false, false, false] rfl rfl (by kernel_rfl) (fun _ _ _ h => h) (Or.inl ⟨by rfl, ?_⟩) ?_ ?_
                rotate_left
                · intro w'
                  go_simp
                  with_reducible rfl
                rotate_left
                · simp only [Act.put, List.setIfInBounds_toArray, List.set_cons_zero, List.set_cons_succ, i64_w, i32_w]
                  rfl
                refine take_ (i := 8) (N := some 33) (v := ?_) (a' := ?_) #[true, true, true, true, true, true, true, true, true, false, false] rfl rfl (by kernel_rfl) (fun _ _ _ h => h) (Or.inl ⟨by rfl, ?_⟩) hHeld ?_ ?_
                rotate_left
                · intro w' s0
                  obtain ⟨y0, y1, y2, y3⟩ := s0
                  go_simp
                  with_reducible rfl
                rotate_left
                · simp only [Act.put, List.setIfInBounds_toArray, List.set_cons_zero, List.set_cons_succ, i64_w, i32_w]
                  rfl
                refine one_ (i := 9) (N := some 10) #[true, true, true, true, true, true, true, true, true, true, false] rfl rfl (by kernel_rfl) (by decide) (fun K hK => ?_)
                refine value_ (w1 := ?_) (v := ?_) (by rfl) rfl ?_ ?_
                rotate_left 2
                · go_simp
                  constructor
                  · rfl
                  · rfl
                have hbw4 := below_alloc hbw (.cells #[.string ⟨#[]⟩, .string ⟨#[]⟩, .int .i64 0] 75 (0, 0))
                have hS4 := And.intro (pw_cell_below hbw4 z0) (And.intro (pw_cell_below hbw4 x0) (And.intro (pw_cell_below hbw4 x1) (pw_cell_below hbw4 x2)))
                refine hK.out _ _ hS4 (fun hHeld => ?_)
                clear hK K
                refine norm_ (a' := ?_) ?_ ?_
                rotate_left
                · show Act.put _ (some 10) _ = _
                  simp only [Act.put, List.setIfInBounds_toArray, List.set_cons_zero, List.set_cons_succ, i64_w, i32_w]
                  rfl
                exact norm_ (by simp only [putAll, Act.put, List.setIfInBounds_toArray, List.set_cons_zero, List.set_cons_succ]) (hCont w3.heap.size _ ⟨blk_new w3 (.cells #[.string ⟨#[]⟩, .string ⟨#[]⟩, .int .i64 0] 75 (0, 0)), hbw.size, hbw4, hS4⟩)
              · skip
                refine value_ (w1 := ?_) (v := ?_) (by rfl) rfl ?_ ?_
                rotate_left 2
                · go_simp
                  constructor
                  · rfl
                  · rfl
                have hbw4 : Below w2.heap.size w2 ((w2.alloc (.cells #[.string ⟨#[]⟩, .string ⟨#[]⟩, .int .i64 0] 75 (0, 0))).drew) := below_drew1 (below_alloc (Below.refl _ _) (.cells #[.string ⟨#[]⟩, .string ⟨#[]⟩, .int .i64 0] 75 (0, 0)))
                have hS4 := And.intro (pw_cell_below hbw4 z0) (And.intro (pw_cell_below hbw4 x0) (And.intro (pw_cell_below hbw4 x1) (pw_cell_below hbw4 x2)))
                refine hK.out _ _ hS4 (fun hHeld => ?_)
                clear hK K
                refine norm_ (a' := ?_) ?_ ?_
                rotate_left
                · show Act.put _ (some 10) _ = _
                  simp only [Act.put, List.setIfInBounds_toArray, List.set_cons_zero, List.set_cons_succ, i64_w, i32_w]
                  rfl
                refine one_ (i := 6) (N := some 31) #[true, true, true, true, true, true, true, false, false, true, false] rfl rfl (by kernel_rfl) (by decide) (fun K hK => ?_)
                refine goes_ Try.func51 (by kernel_rfl) rfl #[.pointer (some ⟨g, 0, none⟩), .string f.name] (by rfl) rfl rfl (by (try simp only [List.map_toArray, List.map_cons, List.map_nil]); first | done | rfl) ?_
                refine (HA.out _ hbw4).mono ?_
                rintro e w3 ⟨rfl, hb3⟩
                refine ⟨_, rfl, ?_⟩
                have hbw : Below w2.heap.size w2 w3 := hbw4.trans (hb3.mono hbw4.size)
                have hS3 := And.intro (pw_cell_below hbw z0) (And.intro (pw_cell_below hbw x0) (And.intro (pw_cell_below hbw x1) (pw_cell_below hbw x2)))
                have hz3 := (hb3.block w2.heap.size (by simp)).trans (blk_new w2 (.cells #[.string ⟨#[]⟩, .string ⟨#[]⟩, .int .i64 0] 75 (0, 0)))
                refine hK.out _ _ hS3 (fun hHeld => ?_)
                clear hK K
                refine norm_ (a' := ?_) ?_ ?_
                rotate_left
                · show Act.put _ (some 31) _ = _
                  simp only [Act.put, List.setIfInBounds_toArray, List.set_cons_zero, List.set_cons_succ, i64_w, i32_w]
                  rfl
                refine pure_ (i := 7) (N := some 32) (v := ?_) (a' := ?_) #[true, true, true, true, true, true, true, true, false, true, false] rfl rfl (by kernel_rfl) (fun _ _ _ h => h) (Or.inl ⟨by rfl, ?_⟩) ?_ ?_
                rotate_left
                · intro w'
                  go_simp
                  with_reducible rfl
                rotate_left
                · simp only [Act.put, List.setIfInBounds_toArray, List.set_cons_zero, List.set_cons_succ, i64_w, i32_w]
                  rfl
                refine take_ (i := 8) (N := some 33) (v := ?_) (a' := ?_) #[true, true, true, true, true, true, true, true, true, true, false] rfl rfl (by kernel_rfl) (fun _ _ _ h => h) (Or.inl ⟨by rfl, ?_⟩) hHeld ?_ ?_
                rotate_left
                · intro w' s0
                  obtain ⟨y0, y1, y2, y3⟩ := s0
                  go_simp
                  with_reducible rfl
                rotate_left
                · simp only [Act.put, List.setIfInBounds_toArray, List.set_cons_zero, List.set_cons_succ, i64_w, i32_w]
                  rfl
                exact norm_ (by simp only [putAll, Act.put, List.setIfInBounds_toArray, List.set_cons_zero, List.set_cons_succ]) (hCont w2.heap.size _ ⟨hz3, Nat.le_refl _, hbw, hS3⟩)
            rintro s' w' ⟨hz, hlo, hb, y0, y1, y2, y3⟩
            refine norm_ (a' := ?_) ?_ ?_
            rotate_left
            · simp only [putAll, Act.put, List.setIfInBounds_toArray, List.set_cons_zero, List.set_cons_succ]
              rfl
            refine last_ (i := 10) (N := none) #[true, true, true, true, true, true, true, true, true, true, true] rfl rfl (by kernel_rfl) (by decide) (fun K hK => ?_)
            rw [if_pos (by rfl)]
            have q0 : w'.cell? ⟨s', 0, none⟩ = some (.string ⟨#[]⟩) := (blk_cell hz 0).trans rfl
            have q1 : w'.cell? ⟨s', 1, none⟩ = some (.string ⟨#[]⟩) := (blk_cell hz 1).trans rfl
            have q2 : w'.cell? ⟨s', 2, none⟩ = some (.int .i64 0) := (blk_cell hz 2).trans rfl
            have r0 := blk_frozen hz 0
            have r1 := blk_frozen hz 1
            have r2 := blk_frozen hz 2
            go_simp
            refine hK.out _ _ ?_
            clear hK K
            refine done_ (by kernel_rfl) ?_
            obtain ⟨hz3, hb3⟩ := stored hz hlo hb ⟨f.name, bt, (f.safe : Int)⟩
            obtain ⟨Wx, hWx⟩ : ∃ W, W = ((w'.setCell ⟨s', 0, none⟩ (.string f.name)).setCell ⟨s', 1, none⟩ (.string bt)).setCell ⟨s', 2, none⟩ (.int .i64 (f.safe : Int)) := ⟨_, rfl⟩
            rw [← hWx] at hz3 hb3 ⊢
            clear q0 q1 q2 r0 r1 r2 y0 y1 y2 y3 hz hb hWx z0 x0 x1 x2
            have q0 : Wx.cell? ⟨s', 0, none⟩ = some (.string f.name) := (blk_cell hz3 0).trans rfl
            have q1 : Wx.cell? ⟨s', 1, none⟩ = some (.string bt) := (blk_cell hz3 1).trans rfl
            have q2 : Wx.cell? ⟨s', 2, none⟩ = some (.int .i64 (f.safe : Int)) := (blk_cell hz3 2).trans rfl
            have r0 := blk_frozen hz3 0
            have r1 := blk_frozen hz3 1
            have r2 := blk_frozen hz3 2
            have HBx := Aside0.mk (show Below w2.heap.size w2 ((Wx.setCell ⟨s', 1, none⟩ (.string s1)).setCell ⟨s', 2, none⟩ (.int .i64 (k1 : Int))) from (hb3.setCell hlo _).setCell hlo _)
            clear hz3 hb3
            go_wp2_with (first
              | (go_at_call 56; refine (put_after HR.out HBx.out ⟨f.name, f.b.take k1, k1⟩ HS1.out HG.out.act.len).mono ?_; rintro e w4 ⟨rfl, hr, ho⟩; have HR4 := Aside0.mk hr; have HO4 := Aside0.mk ho; clear hr ho HR)
              | (go_at_call 58; refine (Ends_after' HB.out HO.out HR4.out HO4.out HG2.out go).mono ?_; rintro e w5 ⟨rfl, hr, ho⟩; have HR5 := Aside0.mk hr; have HO5 := Aside0.mk ho; clear hr ho HR4))
            go_ret
            exact ⟨rfl, HR5.out, HO5.out⟩
          · have b2 : decide (k1 < f.safe) = false := decide_eq_false hsf
            have HE := Aside0.mk (HCt.out f.safe (Nat.min_eq_left (Nat.le_of_not_lt hsf)).symm)
            rw [HE.out] at HG2 ⊢
            clear HDn
            go_enter Try.func45, Try.ntmps45
            go_wp2_with (first
              | (go_at_call 50; refine HM.out.mono ?_; rintro e w1 ⟨rfl, hb⟩; have HB := Aside0.mk hb; clear hb HM)
              | (go_at_call 57; refine (HBg.out _ HB.out).mono ?_; rintro e w2 ⟨rfl, hr, ho⟩; have z0 : w2.cell? ⟨g, 0, none⟩ = some (.slice (some ad) n c) := hr.cell 0; have HA := Aside0.mk (fun w' (hb : Below w2.heap.size w2 w') => hr.atQ HAt.out HG.out.len hb); obtain ⟨x0, x1, x2⟩ := hr.fileAt HFi.out HBt.out; have HR := Aside0.mk hr; have HO := Aside0.mk ho; clear hr ho HBg))
            refine start_ (n := 11) (S := fun w' => w'.cell? ⟨g, 0, none⟩ = some (.slice (some ad) n c) ∧ w'.cell? (ad.add (i * 3)) = some (.string f.name) ∧ w'.cell? ⟨(ad.add (i * 3)).block, (ad.add (i * 3)).off + 1, none⟩ = some (.string bt) ∧ w'.cell? ⟨(ad.add (i * 3)).block, (ad.add (i * 3)).off + 2, none⟩ = some (.int .i64 (f.safe : Int))) (ds := [10]) #[false, false, false, false, false, false, false, false, false, false, false] (by kernel_rfl) rfl rfl ⟨z0, x0, x1, x2⟩ (fun hHeld => ?_)
            refine pure_ (i := 0) (N := some 25) (v := ?_) (a' := ?_) #[true, false, false, false, false, false, false, false, false, false, false] rfl rfl (by kernel_rfl) (fun _ _ _ h => h) (Or.inl ⟨by rfl, ?_⟩) ?_ ?_
            rotate_left
            · intro w'
              go_simp
              with_reducible rfl
            rotate_left
            · simp only [Act.put, List.setIfInBounds_toArray, List.set_cons_zero, List.set_cons_succ, i64_w, i32_w]
              rfl
            refine pure_ (i := 1) (N := some 26) (v := ?_) (a' := ?_) #[true, true, false, false, false, false, false, false, false, false, false] rfl rfl (by kernel_rfl) (fun _ _ _ h => h) (Or.inl ⟨by rfl, ?_⟩) ?_ ?_
            rotate_left
            · intro w'
              go_simp
              with_reducible rfl
            rotate_left
            · simp only [Act.put, List.setIfInBounds_toArray, List.set_cons_zero, List.set_cons_succ, i64_w, i32_w]
              rfl
            refine pure_ (i := 2) (N := some 27) (v := ?_) (a' := ?_) #[true, true, true, false, false, false, false, false, false, false, false] rfl rfl (by kernel_rfl) (fun _ _ _ h => h) (Or.inl ⟨by rfl, ?_⟩) ?_ ?_
            rotate_left
            · intro w'
              go_simp
              with_reducible rfl
            rotate_left
            · simp only [Act.put, List.setIfInBounds_toArray, List.set_cons_zero, List.set_cons_succ, i64_w, i32_w]
              rfl
            refine take_ (i := 3) (N := some 28) (v := ?_) (a' := ?_) #[true, true, true, true, false, false, false, false, false, false, false] rfl rfl (by kernel_rfl) (fun _ _ _ h => h) (Or.inl ⟨by rfl, ?_⟩) hHeld ?_ ?_
            rotate_left
            · intro w' s0
              obtain ⟨y0, y1, y2, y3⟩ := s0
              go_simp
              with_reducible rfl
            rotate_left
            · simp only [Act.put, List.setIfInBounds_toArray, List.set_cons_zero, List.set_cons_succ, i64_w, i32_w]
              rfl
            refine pure_ (i := 4) (N := some 29) (v := ?_) (a' := ?_) #[true, true, true, true, true, false, false, false, false, false, false] rfl rfl (by kernel_rfl) (fun _ _ _ h => h) (Or.inl ⟨by rfl, ?_⟩) ?_ ?_
            rotate_left
            · intro w'
              go_simp
              with_reducible rfl
            rotate_left
            · simp only [Act.put, List.setIfInBounds_toArray, List.set_cons_zero, List.set_cons_succ, i64_w, i32_w]
              rfl
            refine pure_ (i := 5) (N := some 30) (v := ?_) (a' := ?_) #[true, true, true, true, true, true, false, false, false, false, false] rfl rfl (by kernel_rfl) (fun _ _ _ h => h) (Or.inl ⟨by rfl, ?_⟩) ?_ ?_
            rotate_left
            · intro w'
              go_simp
              with_reducible rfl
            rotate_left
            · simp only [Act.put, List.setIfInBounds_toArray, List.set_cons_zero, List.set_cons_succ, i64_w, i32_w]
              rfl
            clear hHeld
            refine join_ (σ := Nat) 1 #[true, true, true, true, true, true, true, true, true, true, false] (fun s => [(31, .int .i64 (i : Int)), (32, .pointer (some (ad.add (i * 3)))), (33, .agg #[.string f.name, .string bt, .int .i64 (f.safe : Int)]), (10, .pointer (some ⟨s, 0, none⟩))]) (fun s w' => w'.heap[s]? = some (.cells #[.string ⟨#[]⟩, .string ⟨#[]⟩, .int .i64 0] 75 (0, 0)) ∧ w2.heap.size ≤ s ∧ Below w2.heap.size w2 w' ∧ w'.cell? ⟨g, 0, none⟩ = some (.slice (some ad) n c) ∧ w'.cell? (ad.add (i * 3)) = some (.string f.name) ∧ w'.cell? ⟨(ad.add (i * 3)).block, (ad.add (i * 3)).off + 1, none⟩ = some (.string bt) ∧ w'.cell? ⟨(ad.add (i * 3)).block, (ad.add (i * 3)).off + 2, none⟩ = some (.int .i64 (f.safe : Int))) ?_ ?_
            rotate_left
            · intro hCont
              refine two_ (i := 6) (j := 9) (Ni := some 31) (Nj := some 10) #[true, true, true, true, true, true, true, false, false, false, false] #[true, true, true, true, true, true, false, false, false, true, false] rfl rfl rfl rfl (by kernel_rfl) (by decide) (by decide) (fun K hK => ?_) (fun K hK => ?_)
              · skip
                refine goes_ Try.func51 (by kernel_rfl) rfl #[.pointer (some ⟨g, 0, none⟩), .string f.name] (by rfl) rfl rfl (by (try simp only [List.map_toArray, List.map_cons, List.map_nil]); first | done | rfl) ?_
                refine (HA.out _ (below_drew1 (Below.refl _ _))).mono ?_
                rintro e w3 ⟨rfl, hb3⟩
                refine ⟨_, rfl, ?_⟩
                have hbw : Below w2.heap.size w2 w3 := (below_drew1 (Below.refl _ _)).trans hb3
                have hS3 := And.intro (pw_cell_below hbw z0) (And.intro (pw_cell_below hbw x0) (And.intro (pw_cell_below hbw x1) (pw_cell_below hbw x2)))
                refine hK.out _ _ hS3 (fun hHeld => ?_)
                clear hK K
                refine norm_ (a' := ?_) ?_ ?_
                rotate_left
                · show Act.put _ (some 31) _ = _
                  simp only [Act.put, List.setIfInBounds_toArray, List.set_cons_zero, List.set_cons_succ, i64_w, i32_w]
                  rfl
                refine pure_ (i := 7) (N := some 32) (v := ?_) (a' := ?_) #[true, true, true, true, true, true, true, true, false, false, false] rfl rfl (by kernel_rfl) (fun _ _ _ h => h) (Or.inl ⟨by rfl, ?_⟩) ?_ ?_
                rotate_left
                · intro w'
                  go_simp
                  with_reducible rfl
                rotate_left
                · simp only [Act.put, List.setIfInBounds_toArray, List.set_cons_zero, List.set_cons_succ, i64_w, i32_w]
                  rfl
                refine take_ (i := 8) (N := some 33) (v := ?_) (a' := ?_) #[true, true, true, true, true, true, true, true, true, false, false] rfl rfl (by kernel_rfl) (fun _ _ _ h => h) (Or.inl ⟨by rfl, ?_⟩) hHeld ?_ ?_
                rotate_left
                · intro w' s0
                  obtain ⟨y0, y1, y2, y3⟩ := s0
                  go_simp
                  with_reducible rfl
                rotate_left
                · simp only [Act.put, List.setIfInBounds_toArray, List.set_cons_zero, List.set_cons_succ, i64_w, i32_w]
                  rfl
                refine one_ (i := 9) (N := some 10) #[true, true, true, true, true, true, true, true, true, true, false] rfl rfl (by kernel_rfl) (by decide) (fun K hK => ?_)
                refine value_ (w1 := ?_) (v := ?_) (by rfl) rfl ?_ ?_
                rotate_left 2
                · go_simp
                  constructor
                  · rfl
                  · rfl
                have hbw4 := below_alloc hbw (.cells #[.string ⟨#[]⟩, .string ⟨#[]⟩, .int .i64 0] 75 (0, 0))
                have hS4 := And.intro (pw_cell_below hbw4 z0) (And.intro (pw_cell_below hbw4 x0) (And.intro (pw_cell_below hbw4 x1) (pw_cell_below hbw4 x2)))
                refine hK.out _ _ hS4 (fun hHeld => ?_)
                clear hK K
                refine norm_ (a' := ?_) ?_ ?_
                rotate_left
                · show Act.put _ (some 10) _ = _
                  simp only [Act.put, List.setIfInBounds_toArray, List.set_cons_zero, List.set_cons_succ, i64_w, i32_w]
                  rfl
                exact norm_ (by simp only [putAll, Act.put, List.setIfInBounds_toArray, List.set_cons_zero, List.set_cons_succ]) (hCont w3.heap.size _ ⟨blk_new w3 (.cells #[.string ⟨#[]⟩, .string ⟨#[]⟩, .int .i64 0] 75 (0, 0)), hbw.size, hbw4, hS4⟩)
              · skip
                refine value_ (w1 := ?_) (v := ?_) (by rfl) rfl ?_ ?_
                rotate_left 2
                · go_simp
                  constructor
                  · rfl
                  · rfl
                have hbw4 : Below w2.heap.size w2 ((w2.alloc (.cells #[.string ⟨#[]⟩, .string ⟨#[]⟩, .int .i64 0] 75 (0, 0))).drew) := below_drew1 (below_alloc (Below.refl _ _) (.cells #[.string ⟨#[]⟩, .string ⟨#[]⟩, .int .i64 0] 75 (0, 0)))
                have hS4 := And.intro (pw_cell_below hbw4 z0) (And.intro (pw_cell_below hbw4 x0) (And.intro (pw_cell_below hbw4 x1) (pw_cell_below hbw4 x2)))
                refine hK.out _ _ hS4 (fun hHeld => ?_)
                clear hK K
                refine norm_ (a' := ?_) ?_ ?_
                rotate_left
                · show Act.put _ (some 10) _ = _
                  simp only [Act.put, List.setIfInBounds_toArray, List.set_cons_zero, List.set_cons_succ, i64_w, i32_w]
                  rfl
                refine one_ (i := 6) (N := some 31) #[true, true, true, true, true, true, true, false, false, true, false] rfl rfl (by kernel_rfl) (by decide) (fun K hK => ?_)
                refine goes_ Try.func51 (by kernel_rfl) rfl #[.pointer (some ⟨g, 0, none⟩), .string f.name] (by rfl) rfl rfl (by (try simp only [List.map_toArray, List.map_cons, List.map_nil]); first | done | rfl) ?_
                refine (HA.out _ hbw4).mono ?_
                rintro e w3 ⟨rfl, hb3⟩
                refine ⟨_, rfl, ?_⟩
                have hbw : Below w2.heap.size w2 w3 := hbw4.trans (hb3.mono hbw4.size)
                have hS3 := And.intro (pw_cell_below hbw z0) (And.intro (pw_cell_below hbw x0) (And.intro (pw_cell_below hbw x1) (pw_cell_below hbw x2)))
                have hz3 := (hb3.block w2.heap.size (by simp)).trans (blk_new w2 (.cells #[.string ⟨#[]⟩, .string ⟨#[]⟩, .int .i64 0] 75 (0, 0)))
                refine hK.out _ _ hS3 (fun hHeld => ?_)
                clear hK K
                refine norm_ (a' := ?_) ?_ ?_
                rotate_left
                · show Act.put _ (some 31) _ = _
                  simp only [Act.put, List.setIfInBounds_toArray, List.set_cons_zero, List.set_cons_succ, i64_w, i32_w]
                  rfl
                refine pure_ (i := 7) (N := some 32) (v := ?_) (a' := ?_) #[true, true, true, true, true, true, true, true, false, true, false] rfl rfl (by kernel_rfl) (fun _ _ _ h => h) (Or.inl ⟨by rfl, ?_⟩) ?_ ?_
                rotate_left
                · intro w'
                  go_simp
                  with_reducible rfl
                rotate_left
                · simp only [Act.put, List.setIfInBounds_toArray, List.set_cons_zero, List.set_cons_succ, i64_w, i32_w]
                  rfl
                refine take_ (i := 8) (N := some 33) (v := ?_) (a' := ?_) #[true, true, true, true, true, true, true, true, true, true, false] rfl rfl (by kernel_rfl) (fun _ _ _ h => h) (Or.inl ⟨by rfl, ?_⟩) hHeld ?_ ?_
                rotate_left
                · intro w' s0
                  obtain ⟨y0, y1, y2, y3⟩ := s0
                  go_simp
                  with_reducible rfl
                rotate_left
                · simp only [Act.put, List.setIfInBounds_toArray, List.set_cons_zero, List.set_cons_succ, i64_w, i32_w]
                  rfl
                exact norm_ (by simp only [putAll, Act.put, List.setIfInBounds_toArray, List.set_cons_zero, List.set_cons_succ]) (hCont w2.heap.size _ ⟨hz3, Nat.le_refl _, hbw, hS3⟩)
            rintro s' w' ⟨hz, hlo, hb, y0, y1, y2, y3⟩
            refine norm_ (a' := ?_) ?_ ?_
            rotate_left
            · simp only [putAll, Act.put, List.setIfInBounds_toArray, List.set_cons_zero, List.set_cons_succ]
              rfl
            refine last_ (i := 10) (N := none) #[true, true, true, true, true, true, true, true, true, true, true] rfl rfl (by kernel_rfl) (by decide) (fun K hK => ?_)
            rw [if_pos (by rfl)]
            have q0 : w'.cell? ⟨s', 0, none⟩ = some (.string ⟨#[]⟩) := (blk_cell hz 0).trans rfl
            have q1 : w'.cell? ⟨s', 1, none⟩ = some (.string ⟨#[]⟩) := (blk_cell hz 1).trans rfl
            have q2 : w'.cell? ⟨s', 2, none⟩ = some (.int .i64 0) := (blk_cell hz 2).trans rfl
            have r0 := blk_frozen hz 0
            have r1 := blk_frozen hz 1
            have r2 := blk_frozen hz 2
            go_simp
            refine hK.out _ _ ?_
            clear hK K
            refine done_ (by kernel_rfl) ?_
            obtain ⟨hz3, hb3⟩ := stored hz hlo hb ⟨f.name, bt, (f.safe : Int)⟩
            obtain ⟨Wx, hWx⟩ : ∃ W, W = ((w'.setCell ⟨s', 0, none⟩ (.string f.name)).setCell ⟨s', 1, none⟩ (.string bt)).setCell ⟨s', 2, none⟩ (.int .i64 (f.safe : Int)) := ⟨_, rfl⟩
            rw [← hWx] at hz3 hb3 ⊢
            clear q0 q1 q2 r0 r1 r2 y0 y1 y2 y3 hz hb hWx z0 x0 x1 x2
            have q0 : Wx.cell? ⟨s', 0, none⟩ = some (.string f.name) := (blk_cell hz3 0).trans rfl
            have q1 : Wx.cell? ⟨s', 1, none⟩ = some (.string bt) := (blk_cell hz3 1).trans rfl
            have q2 : Wx.cell? ⟨s', 2, none⟩ = some (.int .i64 (f.safe : Int)) := (blk_cell hz3 2).trans rfl
            have r0 := blk_frozen hz3 0
            have r1 := blk_frozen hz3 1
            have r2 := blk_frozen hz3 2
            have HBx := Aside0.mk (show Below w2.heap.size w2 (Wx.setCell ⟨s', 1, none⟩ (.string s1)) from hb3.setCell hlo _)
            clear hz3 hb3
            go_wp2_with (first
              | (go_at_call 56; refine (put_after HR.out HBx.out ⟨f.name, f.b.take k1, f.safe⟩ HS1.out HG.out.act.len).mono ?_; rintro e w4 ⟨rfl, hr, ho⟩; have HR4 := Aside0.mk hr; have HO4 := Aside0.mk ho; clear hr ho HR)
              | (go_at_call 58; refine (Ends_after' HB.out HO.out HR4.out HO4.out HG2.out go).mono ?_; rintro e w5 ⟨rfl, hr, ho⟩; have HR5 := Aside0.mk hr; have HO5 := Aside0.mk ho; clear hr ho HR4))
            go_ret
            exact ⟨rfl, HR5.out, HO5.out⟩
        · have b1 : decide (k1 < bl) = false := decide_eq_false hlt
          have b2 : decide (bl < f.safe) = false := decide_eq_false (by rw [HBl.out]; exact Nat.not_lt.2 HSf.out)
          have HE := Aside0.mk (show cutTo f (k1 : Int) = ⟨f.name, f.b, f.safe⟩ from by
            unfold cutTo
            rw [Int.toNat_natCast, List.take_of_length_le (by rw [← HBl.out]; exact Nat.le_of_not_lt hlt), Nat.min_eq_left HSf.out])
          rw [HE.out] at HG2 ⊢
          clear HDn
          go_enter Try.func45, Try.ntmps45
          go_wp2_with (first
            | (go_at_call 50; refine HM.out.mono ?_; rintro e w1 ⟨rfl, hb⟩; have HB := Aside0.mk hb; clear hb HM)
            | (go_at_call 57; refine (HBg.out _ HB.out).mono ?_; rintro e w2 ⟨rfl, hr, ho⟩; have z0 : w2.cell? ⟨g, 0, none⟩ = some (.slice (some ad) n c) := hr.cell 0; have HA := Aside0.mk (fun w' (hb : Below w2.heap.size w2 w') => hr.atQ HAt.out HG.out.len hb); obtain ⟨x0, x1, x2⟩ := hr.fileAt HFi.out HBt.out; have HR := Aside0.mk hr; have HO := Aside0.mk ho; clear hr ho HBg))
          refine start_ (n := 11) (S := fun w' => w'.cell? ⟨g, 0, none⟩ = some (.slice (some ad) n c) ∧ w'.cell? (ad.add (i * 3)) = some (.string f.name) ∧ w'.cell? ⟨(ad.add (i * 3)).block, (ad.add (i * 3)).off + 1, none⟩ = some (.string bt) ∧ w'.cell? ⟨(ad.add (i * 3)).block, (ad.add (i * 3)).off + 2, none⟩ = some (.int .i64 (f.safe : Int))) (ds := [10]) #[false, false, false, false, false, false, false, false, false, false, false] (by kernel_rfl) rfl rfl ⟨z0, x0, x1, x2⟩ (fun hHeld => ?_)
          refine pure_ (i := 0) (N := some 25) (v := ?_) (a' := ?_) #[true, false, false, false, false, false, false, false, false, false, false] rfl rfl (by kernel_rfl) (fun _ _ _ h => h) (Or.inl ⟨by rfl, ?_⟩) ?_ ?_
          rotate_left
          · intro w'
            go_simp
            with_reducible rfl
          rotate_left
          · simp only [Act.put, List.setIfInBounds_toArray, List.set_cons_zero, List.set_cons_succ, i64_w, i32_w]
            rfl
          refine pure_ (i := 1) (N := some 26) (v := ?_) (a' := ?_) #[true, true, false, false, false, false, false, false, false, false, false] rfl rfl (by kernel_rfl) (fun _ _ _ h => h) (Or.inl ⟨by rfl, ?_⟩) ?_ ?_
          rotate_left
          · intro w'
            go_simp
            with_reducible rfl
          rotate_left
          · simp only [Act.put, List.setIfInBounds_toArray, List.set_cons_zero, List.set_cons_succ, i64_w, i32_w]
            rfl
          refine pure_ (i := 2) (N := some 27) (v := ?_) (a' := ?_) #[true, true, true, false, false, false, false, false, false, false, false] rfl rfl (by kernel_rfl) (fun _ _ _ h => h) (Or.inl ⟨by rfl, ?_⟩) ?_ ?_
          rotate_left
          · intro w'
            go_simp
            with_reducible rfl
          rotate_left
          · simp only [Act.put, List.setIfInBounds_toArray, List.set_cons_zero, List.set_cons_succ, i64_w, i32_w]
            rfl
          refine take_ (i := 3) (N := some 28) (v := ?_) (a' := ?_) #[true, true, true, true, false, false, false, false, false, false, false] rfl rfl (by kernel_rfl) (fun _ _ _ h => h) (Or.inl ⟨by rfl, ?_⟩) hHeld ?_ ?_
          rotate_left
          · intro w' s0
            obtain ⟨y0, y1, y2, y3⟩ := s0
            go_simp
            with_reducible rfl
          rotate_left
          · simp only [Act.put, List.setIfInBounds_toArray, List.set_cons_zero, List.set_cons_succ, i64_w, i32_w]
            rfl
          refine pure_ (i := 4) (N := some 29) (v := ?_) (a' := ?_) #[true, true, true, true, true, false, false, false, false, false, false] rfl rfl (by kernel_rfl) (fun _ _ _ h => h) (Or.inl ⟨by rfl, ?_⟩) ?_ ?_
          rotate_left
          · intro w'
            go_simp
            with_reducible rfl
          rotate_left
          · simp only [Act.put, List.setIfInBounds_toArray, List.set_cons_zero, List.set_cons_succ, i64_w, i32_w]
            rfl
          refine pure_ (i := 5) (N := some 30) (v := ?_) (a' := ?_) #[true, true, true, true, true, true, false, false, false, false, false] rfl rfl (by kernel_rfl) (fun _ _ _ h => h) (Or.inl ⟨by rfl, ?_⟩) ?_ ?_
          rotate_left
          · intro w'
            go_simp
            with_reducible rfl
          rotate_left
          · simp only [Act.put, List.setIfInBounds_toArray, List.set_cons_zero, List.set_cons_succ, i64_w, i32_w]
            rfl
          clear hHeld
          refine join_ (σ := Nat) 1 #[true, true, true, true, true, true, true, true, true, true, false] (fun s => [(31, .int .i64 (i : Int)), (32, .pointer (some (ad.add (i * 3)))), (33, .agg #[.string f.name, .string bt, .int .i64 (f.safe : Int)]), (10, .pointer (some ⟨s, 0, none⟩))]) (fun s w' => w'.heap[s]? = some (.cells #[.string ⟨#[]⟩, .string ⟨#[]⟩, .int .i64 0] 75 (0, 0)) ∧ w2.heap.size ≤ s ∧ Below w2.heap.size w2 w' ∧ w'.cell? ⟨g, 0, none⟩ = some (.slice (some ad) n c) ∧ w'.cell? (ad.add (i * 3)) = some (.string f.name) ∧ w'.cell? ⟨(ad.add (i * 3)).block, (ad.add (i * 3)).off + 1, none⟩ = some (.string bt) ∧ w'.cell? ⟨(ad.add (i * 3)).block, (ad.add (i * 3)).off + 2, none⟩ = some (.int .i64 (f.safe : Int))) ?_ ?_
          rotate_left
          · intro hCont
            refine two_ (i := 6) (j := 9) (Ni := some 31) (Nj := some 10) #[true, true, true, true, true, true, true, false, false, false, false] #[true, true, true, true, true, true, false, false, false, true, false] rfl rfl rfl rfl (by kernel_rfl) (by decide) (by decide) (fun K hK => ?_) (fun K hK => ?_)
            · skip
              refine goes_ Try.func51 (by kernel_rfl) rfl #[.pointer (some ⟨g, 0, none⟩), .string f.name] (by rfl) rfl rfl (by (try simp only [List.map_toArray, List.map_cons, List.map_nil]); first | done | rfl) ?_
              refine (HA.out _ (below_drew1 (Below.refl _ _))).mono ?_
              rintro e w3 ⟨rfl, hb3⟩
              refine ⟨_, rfl, ?_⟩
              have hbw : Below w2.heap.size w2 w3 := (below_drew1 (Below.refl _ _)).trans hb3
              have hS3 := And.intro (pw_cell_below hbw z0) (And.intro (pw_cell_below hbw x0) (And.intro (pw_cell_below hbw x1) (pw_cell_below hbw x2)))
              refine hK.out _ _ hS3 (fun hHeld => ?_)
              clear hK K
              refine norm_ (a' := ?_) ?_ ?_
              rotate_left
              · show Act.put _ (some 31) _ = _
                simp only [Act.put, List.setIfInBounds_toArray, List.set_cons_zero, List.set_cons_succ, i64_w, i32_w]
                rfl
              refine pure_ (i := 7) (N := some 32) (v := ?_) (a' := ?_) #[true, true, true, true, true, true, true, true, false, false, false] rfl rfl (by kernel_rfl) (fun _ _ _ h => h) (Or.inl ⟨by rfl, ?_⟩) ?_ ?_
              rotate_left
              · intro w'
                go_simp
                with_reducible rfl
              rotate_left
              · simp only [Act.put, List.setIfInBounds_toArray, List.set_cons_zero, List.set_cons_succ, i64_w, i32_w]
                rfl
              refine take_ (i := 8) (N := some 33) (v := ?_) (a' := ?_) #[true, true, true, true, true, true, true, true, true, false, false] rfl rfl (by kernel_rfl) (fun _ _ _ h => h) (Or.inl ⟨by rfl, ?_⟩) hHeld ?_ ?_
              rotate_left
              · intro w' s0
                obtain ⟨y0, y1, y2, y3⟩ := s0
                go_simp
                with_reducible rfl
              rotate_left
              · simp only [Act.put, List.setIfInBounds_toArray, List.set_cons_zero, List.set_cons_succ, i64_w, i32_w]
                rfl
              refine one_ (i := 9) (N := some 10) #[true, true, true, true, true, true, true, true, true, true, false] rfl rfl (by kernel_rfl) (by decide) (fun K hK => ?_)
              refine value_ (w1 := ?_) (v := ?_) (by rfl) rfl ?_ ?_
              rotate_left 2
              · go_simp
                constructor
                · rfl
                · rfl
              have hbw4 := below_alloc hbw (.cells #[.string ⟨#[]⟩, .string ⟨#[]⟩, .int .i64 0] 75 (0, 0))
              have hS4 := And.intro (pw_cell_below hbw4 z0) (And.intro (pw_cell_below hbw4 x0) (And.intro (pw_cell_below hbw4 x1) (pw_cell_below hbw4 x2)))
              refine hK.out _ _ hS4 (fun hHeld => ?_)
              clear hK K
              refine norm_ (a' := ?_) ?_ ?_
              rotate_left
              · show Act.put _ (some 10) _ = _
                simp only [Act.put, List.setIfInBounds_toArray, List.set_cons_zero, List.set_cons_succ, i64_w, i32_w]
                rfl
              exact norm_ (by simp only [putAll, Act.put, List.setIfInBounds_toArray, List.set_cons_zero, List.set_cons_succ]) (hCont w3.heap.size _ ⟨blk_new w3 (.cells #[.string ⟨#[]⟩, .string ⟨#[]⟩, .int .i64 0] 75 (0, 0)), hbw.size, hbw4, hS4⟩)
            · skip
              refine value_ (w1 := ?_) (v := ?_) (by rfl) rfl ?_ ?_
              rotate_left 2
              · go_simp
                constructor
                · rfl
                · rfl
              have hbw4 : Below w2.heap.size w2 ((w2.alloc (.cells #[.string ⟨#[]⟩, .string ⟨#[]⟩, .int .i64 0] 75 (0, 0))).drew) := below_drew1 (below_alloc (Below.refl _ _) (.cells #[.string ⟨#[]⟩, .string ⟨#[]⟩, .int .i64 0] 75 (0, 0)))
              have hS4 := And.intro (pw_cell_below hbw4 z0) (And.intro (pw_cell_below hbw4 x0) (And.intro (pw_cell_below hbw4 x1) (pw_cell_below hbw4 x2)))
              refine hK.out _ _ hS4 (fun hHeld => ?_)
              clear hK K
              refine norm_ (a' := ?_) ?_ ?_
              rotate_left
              · show Act.put _ (some 10) _ = _
                simp only [Act.put, List.setIfInBounds_toArray, List.set_cons_zero, List.set_cons_succ, i64_w, i32_w]
                rfl
              refine one_ (i := 6) (N := some 31) #[true, true, true, true, true, true, true, false, false, true, false] rfl rfl (by kernel_rfl) (by decide) (fun K hK => ?_)
              refine goes_ Try.func51 (by kernel_rfl) rfl #[.pointer (some ⟨g, 0, none⟩), .string f.name] (by rfl) rfl rfl (by (try simp only [List.map_toArray, List.map_cons, List.map_nil]); first | done | rfl) ?_
              refine (HA.out _ hbw4).mono ?_
              rintro e w3 ⟨rfl, hb3⟩
              refine ⟨_, rfl, ?_⟩
              have hbw : Below w2.heap.size w2 w3 := hbw4.trans (hb3.mono hbw4.size)
              have hS3 := And.intro (pw_cell_below hbw z0) (And.intro (pw_cell_below hbw x0) (And.intro (pw_cell_below hbw x1) (pw_cell_below hbw x2)))
              have hz3 := (hb3.block w2.heap.size (by simp)).trans (blk_new w2 (.cells #[.string ⟨#[]⟩, .string ⟨#[]⟩, .int .i64 0] 75 (0, 0)))
              refine hK.out _ _ hS3 (fun hHeld => ?_)
              clear hK K
              refine norm_ (a' := ?_) ?_ ?_
              rotate_left
              · show Act.put _ (some 31) _ = _
                simp only [Act.put, List.setIfInBounds_toArray, List.set_cons_zero, List.set_cons_succ, i64_w, i32_w]
                rfl
              refine pure_ (i := 7) (N := some 32) (v := ?_) (a' := ?_) #[true, true, true, true, true, true, true, true, false, true, false] rfl rfl (by kernel_rfl) (fun _ _ _ h => h) (Or.inl ⟨by rfl, ?_⟩) ?_ ?_
              rotate_left
              · intro w'
                go_simp
                with_reducible rfl
              rotate_left
              · simp only [Act.put, List.setIfInBounds_toArray, List.set_cons_zero, List.set_cons_succ, i64_w, i32_w]
                rfl
              refine take_ (i := 8) (N := some 33) (v := ?_) (a' := ?_) #[true, true, true, true, true, true, true, true, true, true, false] rfl rfl (by kernel_rfl) (fun _ _ _ h => h) (Or.inl ⟨by rfl, ?_⟩) hHeld ?_ ?_
              rotate_left
              · intro w' s0
                obtain ⟨y0, y1, y2, y3⟩ := s0
                go_simp
                with_reducible rfl
              rotate_left
              · simp only [Act.put, List.setIfInBounds_toArray, List.set_cons_zero, List.set_cons_succ, i64_w, i32_w]
                rfl
              exact norm_ (by simp only [putAll, Act.put, List.setIfInBounds_toArray, List.set_cons_zero, List.set_cons_succ]) (hCont w2.heap.size _ ⟨hz3, Nat.le_refl _, hbw, hS3⟩)
          rintro s' w' ⟨hz, hlo, hb, y0, y1, y2, y3⟩
          refine norm_ (a' := ?_) ?_ ?_
          rotate_left
          · simp only [putAll, Act.put, List.setIfInBounds_toArray, List.set_cons_zero, List.set_cons_succ]
            rfl
          refine last_ (i := 10) (N := none) #[true, true, true, true, true, true, true, true, true, true, true] rfl rfl (by kernel_rfl) (by decide) (fun K hK => ?_)
          rw [if_pos (by rfl)]
          have q0 : w'.cell? ⟨s', 0, none⟩ = some (.string ⟨#[]⟩) := (blk_cell hz 0).trans rfl
          have q1 : w'.cell? ⟨s', 1, none⟩ = some (.string ⟨#[]⟩) := (blk_cell hz 1).trans rfl
          have q2 : w'.cell? ⟨s', 2, none⟩ = some (.int .i64 0) := (blk_cell hz 2).trans rfl
          have r0 := blk_frozen hz 0
          have r1 := blk_frozen hz 1
          have r2 := blk_frozen hz 2
          go_simp
          refine hK.out _ _ ?_
          clear hK K
          refine done_ (by kernel_rfl) ?_
          obtain ⟨hz3, hb3⟩ := stored hz hlo hb ⟨f.name, bt, (f.safe : Int)⟩
          obtain ⟨Wx, hWx⟩ : ∃ W, W = ((w'.setCell ⟨s', 0, none⟩ (.string f.name)).setCell ⟨s', 1, none⟩ (.string bt)).setCell ⟨s', 2, none⟩ (.int .i64 (f.safe : Int)) := ⟨_, rfl⟩
          rw [← hWx] at hz3 hb3 ⊢
          clear q0 q1 q2 r0 r1 r2 y0 y1 y2 y3 hz hb hWx z0 x0 x1 x2
          have q0 : Wx.cell? ⟨s', 0, none⟩ = some (.string f.name) := (blk_cell hz3 0).trans rfl
          have q1 : Wx.cell? ⟨s', 1, none⟩ = some (.string bt) := (blk_cell hz3 1).trans rfl
          have q2 : Wx.cell? ⟨s', 2, none⟩ = some (.int .i64 (f.safe : Int)) := (blk_cell hz3 2).trans rfl
          have r0 := blk_frozen hz3 0
          have r1 := blk_frozen hz3 1
          have r2 := blk_frozen hz3 2
          have HBx := Aside0.mk (show Below w2.heap.size w2 Wx from hb3)
          clear hz3 hb3
          go_wp2_with (first
            | (go_at_call 56; refine (put_after HR.out HBx.out ⟨f.name, f.b, f.safe⟩ HBt.out HG.out.act.len).mono ?_; rintro e w4 ⟨rfl, hr, ho⟩; have HR4 := Aside0.mk hr; have HO4 := Aside0.mk ho; clear hr ho HR)
            | (go_at_call 58; refine (Ends_after' HB.out HO.out HR4.out HO4.out HG2.out go).mono ?_; rintro e w5 ⟨rfl, hr, ho⟩; have HR5 := Aside0.mk hr; have HO5 := Aside0.mk ho; clear hr ho HR4))
          go_ret
          exact ⟨rfl, HR5.out, HO5.out⟩
      | false =>
        rw [if_neg (by decide)]
        clear hg2
        go_enter Try.func45, Try.ntmps45
        go_wp2_with (first
          | (go_at_call 50; refine HM.out.mono ?_; rintro e w1 ⟨rfl, hb⟩; have HB := Aside0.mk hb; clear hb HM)
          | (go_at_call 57; refine (HBg.out _ HB.out).mono ?_; rintro e w2 ⟨rfl, hr, ho⟩; have HR := Aside0.mk hr; have HO := Aside0.mk ho; clear hr ho HBg)
          | (go_at_call 58; refine (Ends_after' HB.out HO.out (HR.out.at).grow (Only.refl _ _) HG.out.act go).mono ?_; rintro e w4 ⟨rfl, hr, ho⟩; have HR4 := Aside0.mk hr; have HO4 := Aside0.mk ho; clear hr ho HR))
        go_ret
        exact ⟨rfl, HR4.out, HO4.out⟩
  · rw [if_pos c3]
    obtain ⟨r, hr⟩ : ∃ r, r = d.there s := ⟨_, rfl⟩
    rw [← hr] at c1 c2 HM ⊢
    clear hr c3 h hg2
    go_enter Try.func45, Try.ntmps45
    go_wp2_with (first
      | (go_at_call 50; refine HM.out.mono ?_; rintro e w1 ⟨rfl, hb⟩; have HB := Aside0.mk hb; clear hb HM))
    go_ret
    exact ⟨rfl, (HW.out.below HB.out).at.grow, (Only.refl S w).below HB.out⟩
end
end Go.Proofs.Ytoedkemjidgbeaa.Dk
/- The reference's device: Rename. -/
namespace Go.Proofs.Ytoedkemjidgbeaa.Dk
open Go Go.RowKit Go.Proofs.YtoedkemjidgbeaaW.PrintWords Go.Proofs.YtoedkemjidgbeaaW.PrintLast Go.Proofs.YtoedkemjidgbeaaW.PrintMore Go.Proofs.YtoedkemjidgbeaaMy Go.Proofs.Ytoedkemjidgbeaa Go.Proofs.YtoedkemjidgbeaaPw Go.Proofs.Ytoedkemjidgbeaa.PAll
set_option linter.unusedVariables false
set_option linter.unusedSimpArgs false
theorem delF_less (l : List Fl) (s : ByteArray) : (delF l s).length ≤ l.length := List.length_filter_le _ _
section
variable {S S1 : Nat → Prop} {W W1 w : World} {g : Nat} {d : DS} {v v1 : Value}
/-- No block that is still to come. -/
theorem RefW.trim (h : RefW S w g d v) : RefW (fun k => S k ∧ k < w.heap.size) w g d v := by
  refine ⟨h.blk, ⟨h.sg, blk_lt h.blk⟩, ?_⟩
  have hr := h.row
  exact k75_R hr (fun k hk => ⟨⟨(hr.1 k hk).1, Kd.R_lt hr k hk⟩, (hr.1 k hk).2⟩)
theorem drop_put {w2 wx : World} {d2 : DS} {x : S75} {s' : Nat} (r : RefW S w2 g d2 v) (hb : Below w2.heap.size w2 wx) (hlo : w2.heap.size ≤ s') (hx : wx.heap[s']? = some (fileLit x)) (a : ByteArray) (hl : d2.files.length ≤ 4096) :
    Calls Try.prog 60 #[.pointer (some ⟨g, 0, none⟩), .string a] wx fun e w4 => e = .returned (.tuple #[]) ∧ w4.heap[s']? = some (fileLit x) ∧ (∀ (b : ByteArray) (f' : Fl) (bt : ByteArray), bt = strOfNums f'.b → Calls Try.prog 56 #[.pointer (some ⟨g, 0, none⟩), .agg #[.string f'.name, .string bt, .int .i64 (f'.safe : Int)]] (w4.setCell ⟨s', 0, none⟩ (.string b)) fun e w6 => e = .returned (.tuple #[]) ∧ RefAt (Grow S w2) w6 g ((d2.drop a).rput f') ∧ Only S w2 w6) := by
  have r1 := r.trim.below hb
  refine (RDrop_Q r1 a hl).mono ?_
  rintro e w4 ⟨he, ⟨v4, hr⟩, ho⟩
  have hsx : s' < wx.heap.size := blk_lt hx
  have hn : ¬ (S s' ∧ s' < w2.heap.size) := fun h => Nat.lt_irrefl _ (Nat.lt_of_lt_of_le h.2 hlo)
  refine ⟨he, ho.lt_ hx hn, fun b f' bt hbt => ?_⟩
  have hn2 : ¬ Grow (fun k => S k ∧ k < w2.heap.size) wx s' := fun h => by
    rcases h with h | h
    · exact hn h
    · exact Nat.lt_irrefl _ (Nat.lt_of_lt_of_le hsx h)
  have hr5 := hr.move (W1 := w4.setCell ⟨s', 0, none⟩ (.string b)) (fun k hk _ => Below.heap_setCell w4 ⟨s', 0, none⟩ _ k (fun e => hn2 (by have e2 : k = s' := e; rw [← e2]; exact hk)))
  have o1 : Only S w2 w4 := ((Only.refl S w2).below hb).trans (ho.mono (fun k h => h.1))
  have o5 : Only S w2 (w4.setCell ⟨s', 0, none⟩ (.string b)) := o1.setCell (.inr hlo) _
  have hsz : w2.heap.size ≤ wx.heap.size := hb.size
  refine (RPut_Q' hr5 f' hbt (Nat.le_trans (delF_less _ _) hl)).mono ?_
  rintro e6 w6 ⟨he6, ⟨v6, hr6⟩, ho6⟩
  have hG : ∀ k, Grow (fun k => S k ∧ k < w2.heap.size) wx k → S k ∨ w2.heap.size ≤ k := fun k h => by
    rcases h with h | h
    · exact .inl h.1
    · exact .inr (Nat.le_trans hsz h)
  refine ⟨he6, ⟨v6, hr6.mono (fun k h => ?_)⟩, o5.thenN ho6 hG⟩
  rcases h with h | h
  · exact hG k h
  · exact .inr (Nat.le_trans o5.size h)
set_option maxHeartbeats 2000000 in
set_option maxRecDepth 100000 in
theorem RRename_Q (h : RefW S w g d v) (hok : d.Ok) (hg : d.RG) (a b : ByteArray) (hg2 : d.there a = 0 → (!d.goes || decide (0 < d.keep)) = true → ((d.act.drop a).rput ⟨b, (d.act.fileOr a).b, (d.act.fileOr a).safe⟩).RG) : Calls Try.prog 46 #[.pointer (some ⟨g, 0, none⟩), .string a, .string b] w fun e w' => e = .returned (.int .i64 (d.rrename a b).1) ∧ RefAt (Grow S w) w' g (d.rrename a b).2 ∧ Only S w w' := by
  have HM := Aside0.mk (RMay_Q h a true hg.len)
  have HW := Aside0.mk h
  have HOk := Aside0.mk hok
  have HG := Aside0.mk hg
  unfold DS.rrename
  rcases there_cases d a with ht | ⟨c1, c2, c3⟩
  · rw [if_neg (fun h => h ht)]
    rw [ht] at HM
    have HBg := Aside0.mk (fun w1 (hb : Below w.heap.size w w1) => RBegins_Q (HW.out.below hb) HOk.out)
    obtain ⟨f, i, hi, hat, hfi, hfo, hnm⟩ := there_at ht
    subst hnm
    have HT := Aside0.mk ht
    obtain ⟨A, c, ev, hall⟩ := h.file
    obtain ⟨ad, ea, hrest⟩ := hall i hi
    clear hrest
    subst ev
    subst ea
    have HI := Aside0.mk hi
    have HAt := Aside0.mk hat
    have HFi := Aside0.mk (show d.files[i]? = some f by rw [List.getElem?_eq_getElem hi, hfi])
    have HFo := Aside0.mk hfo
    have HSf := Aside0.mk (HG.out.safe f (by rw [← hfi]; exact List.getElem_mem hi))
    have HFb := Aside0.mk (HG.out.fit.bytes f (by rw [← hfi]; exact List.getElem_mem hi))
    clear h hok hg ht hall hfi hat hi
    obtain ⟨bt, hbt⟩ : ∃ b, b = strOfNums f.b := ⟨_, rfl⟩
    have HBt := Aside0.mk hbt
    obtain ⟨bl, hbl⟩ : ∃ b, b = f.b.length := ⟨_, rfl⟩
    have hsz : bt.size = bl := by rw [hbt, hbl, str_size2]
    have HBl := Aside0.mk hbl
    clear hbt hbl
    obtain ⟨n, hn⟩ : ∃ n, n = d.files.length := ⟨_, rfl⟩
    have HN := Aside0.mk hn
    rw [← hn] at HW HI HBg
    have hi1 : (0 : Int) ≤ (i : Int) := Int.natCast_nonneg _
    have hi2 : (i : Int) < (n : Int) := Int.ofNat_lt.2 HI.out
    have hi3 : i < n := HI.out
    clear hn
    by_cases hbad : nameOk b = false
    · rw [if_pos hbad]
      have HGd := Aside0.mk (fun w => Good_Q w b)
      rw [hbad] at HGd
      clear hg2
      go_enter Try.func46, Try.ntmps46
      go_wp2_with (first
        | (go_at_call 50; refine HM.out.mono ?_; rintro e w1 ⟨rfl, hb⟩; have HB := Aside0.mk hb; clear hb HM)
        | (go_at_call 59; refine (HGd.out _).mono ?_; rintro e w1b ⟨rfl, ⟨nd, rfl⟩⟩; have HB2 := Aside0.mk (pw_below_drewN HB.out nd)))
      go_ret
      exact ⟨rfl, (HW.out.below HB2.out).at.grow, (Only.refl S w).below HB2.out⟩
    · rw [if_neg hbad, fall_eq]
      have hgd : nameOk b = true := by cases e : nameOk b; exact absurd e hbad; rfl
      have HGd := Aside0.mk (fun w => Good_Q w b)
      rw [hgd] at HGd
      obtain ⟨go, hgo⟩ : ∃ b, b = d.goes := ⟨_, rfl⟩
      obtain ⟨dn, hdn⟩ : ∃ b, b = (!d.goes || decide (0 < d.keep)) := ⟨_, rfl⟩
      rw [← hdn, ← hgo] at HBg
      rw [← hdn, ← hgo]
      have HDn := Aside0.mk hdn
      clear hgo hdn
      cases dn with
      | true =>
        have HG2 := Aside0.mk (hg2 HT.out HDn.out.symm)
        rw [if_pos rfl]
        clear hg2
        rw [show d.act.fileOr f.name = f from HFo.out] at HG2 ⊢
        clear HDn
        go_enter Try.func46, Try.ntmps46
        go_wp2_with (first
          | (go_at_call 50; refine HM.out.mono ?_; rintro e w1 ⟨rfl, hb⟩; have HB := Aside0.mk hb; clear hb HM)
          | (go_at_call 59; refine (HGd.out _).mono ?_; rintro e w1b ⟨rfl, ⟨nd, rfl⟩⟩; have HB2 := Aside0.mk (pw_below_drewN HB.out nd))
          | (go_at_call 57; refine (HBg.out _ HB2.out).mono ?_; rintro e w2 ⟨rfl, hr, ho⟩; have z0 : w2.cell? ⟨g, 0, none⟩ = some (.slice (some ad) n c) := hr.cell 0; have HA := Aside0.mk (fun w' (hb : Below w2.heap.size w2 w') => hr.atQ HAt.out HG.out.len hb); obtain ⟨x0, x1, x2⟩ := hr.fileAt HFi.out HBt.out; have HR := Aside0.mk hr; have HO := Aside0.mk ho; clear hr ho HBg))
        refine start_ (n := 11) (S := fun w' => w'.cell? ⟨g, 0, none⟩ = some (.slice (some ad) n c) ∧ w'.cell? (ad.add (i * 3)) = some (.string f.name) ∧ w'.cell? ⟨(ad.add (i * 3)).block, (ad.add (i * 3)).off + 1, none⟩ = some (.string bt) ∧ w'.cell? ⟨(ad.add (i * 3)).block, (ad.add (i * 3)).off + 2, none⟩ = some (.int .i64 (f.safe : Int))) (ds := [10]) #[false, false, false, false, false, false, false, false, false, false, false] (by kernel_rfl) rfl rfl ⟨z0, x0, x1, x2⟩ (fun hHeld => ?_)
        refine pure_ (i := 0) (N := some 26) (v := ?_) (a' := ?_) #[true, false, false, false, false, false, false, false, false, false, false] rfl rfl (by kernel_rfl) (fun _ _ _ h => h) (Or.inl ⟨by rfl, ?_⟩) ?_ ?_
        rotate_left
        · intro w'
          go_simp
          with_reducible rfl
        rotate_left
        · simp only [Act.put, List.setIfInBounds_toArray, List.set_cons_zero, List.set_cons_succ, i64_w, i32_w]
          rfl
        refine pure_ (i := 1) (N := some 27) (v := ?_) (a' := ?_) #[true, true, false, false, false, false, false, false, false, false, false] rfl rfl (by kernel_rfl) (fun _ _ _ h => h) (Or.inl ⟨by rfl, ?_⟩) ?_ ?_
        rotate_left
        · intro w'
          go_simp
          with_reducible rfl
        rotate_left
        · simp only [Act.put, List.setIfInBounds_toArray, List.set_cons_zero, List.set_cons_succ, i64_w, i32_w]
          rfl
        refine pure_ (i := 2) (N := some 28) (v := ?_) (a' := ?_) #[true, true, true, false, false, false, false, false, false, false, false] rfl rfl (by kernel_rfl) (fun _ _ _ h => h) (Or.inl ⟨by rfl, ?_⟩) ?_ ?_
        rotate_left
        · intro w'
          go_simp
          with_reducible rfl
        rotate_left
        · simp only [Act.put, List.setIfInBounds_toArray, List.set_cons_zero, List.set_cons_succ, i64_w, i32_w]
          rfl
        refine take_ (i := 3) (N := some 29) (v := ?_) (a' := ?_) #[true, true, true, true, false, false, false, false, false, false, false] rfl rfl (by kernel_rfl) (fun _ _ _ h => h) (Or.inl ⟨by rfl, ?_⟩) hHeld ?_ ?_
        rotate_left
        · intro w' s0
          obtain ⟨y0, y1, y2, y3⟩ := s0
          go_simp
          with_reducible rfl
        rotate_left
        · simp only [Act.put, List.setIfInBounds_toArray, List.set_cons_zero, List.set_cons_succ, i64_w, i32_w]
          rfl
        refine pure_ (i := 4) (N := some 30) (v := ?_) (a' := ?_) #[true, true, true, true, true, false, false, false, false, false, false] rfl rfl (by kernel_rfl) (fun _ _ _ h => h) (Or.inl ⟨by rfl, ?_⟩) ?_ ?_
        rotate_left
        · intro w'
          go_simp
          with_reducible rfl
        rotate_left
        · simp only [Act.put, List.setIfInBounds_toArray, List.set_cons_zero, List.set_cons_succ, i64_w, i32_w]
          rfl
        refine pure_ (i := 5) (N := some 31) (v := ?_) (a' := ?_) #[true, true, true, true, true, true, false, false, false, false, false] rfl rfl (by kernel_rfl) (fun _ _ _ h => h) (Or.inl ⟨by rfl, ?_⟩) ?_ ?_
        rotate_left
        · intro w'
          go_simp
          with_reducible rfl
        rotate_left
        · simp only [Act.put, List.setIfInBounds_toArray, List.set_cons_zero, List.set_cons_succ, i64_w, i32_w]
          rfl
        clear hHeld
        refine join_ (σ := Nat) 1 #[true, true, true, true, true, true, true, true, true, true, false] (fun s => [(32, .int .i64 (i : Int)), (33, .pointer (some (ad.add (i * 3)))), (34, .agg #[.string f.name, .string bt, .int .i64 (f.safe : Int)]), (10, .pointer (some ⟨s, 0, none⟩))]) (fun s w' => w'.heap[s]? = some (.cells #[.string ⟨#[]⟩, .string ⟨#[]⟩, .int .i64 0] 75 (0, 0)) ∧ w2.heap.size ≤ s ∧ Below w2.heap.size w2 w' ∧ w'.cell? ⟨g, 0, none⟩ = some (.slice (some ad) n c) ∧ w'.cell? (ad.add (i * 3)) = some (.string f.name) ∧ w'.cell? ⟨(ad.add (i * 3)).block, (ad.add (i * 3)).off + 1, none⟩ = some (.string bt) ∧ w'.cell? ⟨(ad.add (i * 3)).block, (ad.add (i * 3)).off + 2, none⟩ = some (.int .i64 (f.safe : Int))) ?_ ?_
        rotate_left
        · intro hCont
          refine two_ (i := 6) (j := 9) (Ni := some 32) (Nj := some 10) #[true, true, true, true, true, true, true, false, false, false, false] #[true, true, true, true, true, true, false, false, false, true, false] rfl rfl rfl rfl (by kernel_rfl) (by decide) (by decide) (fun K hK => ?_) (fun K hK => ?_)
          · skip
            refine goes_ Try.func51 (by kernel_rfl) rfl #[.pointer (some ⟨g, 0, none⟩), .string f.name] (by rfl) rfl rfl (by (try simp only [List.map_toArray, List.map_cons, List.map_nil]); first | done | rfl) ?_
            refine (HA.out _ (below_drew1 (Below.refl _ _))).mono ?_
            rintro e w3 ⟨rfl, hb3⟩
            refine ⟨_, rfl, ?_⟩
            have hbw : Below w2.heap.size w2 w3 := (below_drew1 (Below.refl _ _)).trans hb3
            have hS3 := And.intro (pw_cell_below hbw z0) (And.intro (pw_cell_below hbw x0) (And.intro (pw_cell_below hbw x1) (pw_cell_below hbw x2)))
            refine hK.out _ _ hS3 (fun hHeld => ?_)
            clear hK K
            refine norm_ (a' := ?_) ?_ ?_
            rotate_left
            · show Act.put _ (some 32) _ = _
              simp only [Act.put, List.setIfInBounds_toArray, List.set_cons_zero, List.set_cons_succ, i64_w, i32_w]
              rfl
            refine pure_ (i := 7) (N := some 33) (v := ?_) (a' := ?_) #[true, true, true, true, true, true, true, true, false, false, false] rfl rfl (by kernel_rfl) (fun _ _ _ h => h) (Or.inl ⟨by rfl, ?_⟩) ?_ ?_
            rotate_left
            · intro w'
              go_simp
              with_reducible rfl
            rotate_left
            · simp only [Act.put, List.setIfInBounds_toArray, List.set_cons_zero, List.set_cons_succ, i64_w, i32_w]
              rfl
            refine take_ (i := 8) (N := some 34) (v := ?_) (a' := ?_) #[true, true, true, true, true, true, true, true, true, false, false] rfl rfl (by kernel_rfl) (fun _ _ _ h => h) (Or.inl ⟨by rfl, ?_⟩) hHeld ?_ ?_
            rotate_left
            · intro w' s0
              obtain ⟨y0, y1, y2, y3⟩ := s0
              go_simp
              with_reducible rfl
            rotate_left
            · simp only [Act.put, List.setIfInBounds_toArray, List.set_cons_zero, List.set_cons_succ, i64_w, i32_w]
              rfl
            refine one_ (i := 9) (N := some 10) #[true, true, true, true, true, true, true, true, true, true, false] rfl rfl (by kernel_rfl) (by decide) (fun K hK => ?_)
            refine value_ (w1 := ?_) (v := ?_) (by rfl) rfl ?_ ?_
            rotate_left 2
            · go_simp
              constructor
              · rfl
              · rfl
            have hbw4 := below_alloc hbw (.cells #[.string ⟨#[]⟩, .string ⟨#[]⟩, .int .i64 0] 75 (0, 0))
            have hS4 := And.intro (pw_cell_below hbw4 z0) (And.intro (pw_cell_below hbw4 x0) (And.intro (pw_cell_below hbw4 x1) (pw_cell_below hbw4 x2)))
            refine hK.out _ _ hS4 (fun hHeld => ?_)
            clear hK K
            refine norm_ (a' := ?_) ?_ ?_
            rotate_left
            · show Act.put _ (some 10) _ = _
              simp only [Act.put, List.setIfInBounds_toArray, List.set_cons_zero, List.set_cons_succ, i64_w, i32_w]
              rfl
            exact norm_ (by simp only [putAll, Act.put, List.setIfInBounds_toArray, List.set_cons_zero, List.set_cons_succ]) (hCont w3.heap.size _ ⟨blk_new w3 (.cells #[.string ⟨#[]⟩, .string ⟨#[]⟩, .int .i64 0] 75 (0, 0)), hbw.size, hbw4, hS4⟩)
          · skip
            refine value_ (w1 := ?_) (v := ?_) (by rfl) rfl ?_ ?_
            rotate_left 2
            · go_simp
              constructor
              · rfl
              · rfl
            have hbw4 : Below w2.heap.size w2 ((w2.alloc (.cells #[.string ⟨#[]⟩, .string ⟨#[]⟩, .int .i64 0] 75 (0, 0))).drew) := below_drew1 (below_alloc (Below.refl _ _) (.cells #[.string ⟨#[]⟩, .string ⟨#[]⟩, .int .i64 0] 75 (0, 0)))
            have hS4 := And.intro (pw_cell_below hbw4 z0) (And.intro (pw_cell_below hbw4 x0) (And.intro (pw_cell_below hbw4 x1) (pw_cell_below hbw4 x2)))
            refine hK.out _ _ hS4 (fun hHeld => ?_)
            clear hK K
            refine norm_ (a' := ?_) ?_ ?_
            rotate_left
            · show Act.put _ (some 10) _ = _
              simp only [Act.put, List.setIfInBounds_toArray, List.set_cons_zero, List.set_cons_succ, i64_w, i32_w]
              rfl
            refine one_ (i := 6) (N := some 32) #[true, true, true, true, true, true, true, false, false, true, false] rfl rfl (by kernel_rfl) (by decide) (fun K hK => ?_)
            refine goes_ Try.func51 (by kernel_rfl) rfl #[.pointer (some ⟨g, 0, none⟩), .string f.name] (by rfl) rfl rfl (by (try simp only [List.map_toArray, List.map_cons, List.map_nil]); first | done | rfl) ?_
            refine (HA.out _ hbw4).mono ?_
            rintro e w3 ⟨rfl, hb3⟩
            refine ⟨_, rfl, ?_⟩
            have hbw : Below w2.heap.size w2 w3 := hbw4.trans (hb3.mono hbw4.size)
            have hS3 := And.intro (pw_cell_below hbw z0) (And.intro (pw_cell_below hbw x0) (And.intro (pw_cell_below hbw x1) (pw_cell_below hbw x2)))
            have hz3 := (hb3.block w2.heap.size (by simp)).trans (blk_new w2 (.cells #[.string ⟨#[]⟩, .string ⟨#[]⟩, .int .i64 0] 75 (0, 0)))
            refine hK.out _ _ hS3 (fun hHeld => ?_)
            clear hK K
            refine norm_ (a' := ?_) ?_ ?_
            rotate_left
            · show Act.put _ (some 32) _ = _
              simp only [Act.put, List.setIfInBounds_toArray, List.set_cons_zero, List.set_cons_succ, i64_w, i32_w]
              rfl
            refine pure_ (i := 7) (N := some 33) (v := ?_) (a' := ?_) #[true, true, true, true, true, true, true, true, false, true, false] rfl rfl (by kernel_rfl) (fun _ _ _ h => h) (Or.inl ⟨by rfl, ?_⟩) ?_ ?_
            rotate_left
            · intro w'
              go_simp
              with_reducible rfl
            rotate_left
            · simp only [Act.put, List.setIfInBounds_toArray, List.set_cons_zero, List.set_cons_succ, i64_w, i32_w]
              rfl
            refine take_ (i := 8) (N := some 34) (v := ?_) (a' := ?_) #[true, true, true, true, true, true, true, true, true, true, false] rfl rfl (by kernel_rfl) (fun _ _ _ h => h) (Or.inl ⟨by rfl, ?_⟩) hHeld ?_ ?_
            rotate_left
            · intro w' s0
              obtain ⟨y0, y1, y2, y3⟩ := s0
              go_simp
              with_reducible rfl
            rotate_left
            · simp only [Act.put, List.setIfInBounds_toArray, List.set_cons_zero, List.set_cons_succ, i64_w, i32_w]
              rfl
            exact norm_ (by simp only [putAll, Act.put, List.setIfInBounds_toArray, List.set_cons_zero, List.set_cons_succ]) (hCont w2.heap.size _ ⟨hz3, Nat.le_refl _, hbw, hS3⟩)
        rintro s' w' ⟨hz, hlo, hb, y0, y1, y2, y3⟩
        refine norm_ (a' := ?_) ?_ ?_
        rotate_left
        · simp only [putAll, Act.put, List.setIfInBounds_toArray, List.set_cons_zero, List.set_cons_succ]
          rfl
        refine last_ (i := 10) (N := none) #[true, true, true, true, true, true, true, true, true, true, true] rfl rfl (by kernel_rfl) (by decide) (fun K hK => ?_)
        rw [if_pos (by rfl)]
        have q0 : w'.cell? ⟨s', 0, none⟩ = some (.string ⟨#[]⟩) := (blk_cell hz 0).trans rfl
        have q1 : w'.cell? ⟨s', 1, none⟩ = some (.string ⟨#[]⟩) := (blk_cell hz 1).trans rfl
        have q2 : w'.cell? ⟨s', 2, none⟩ = some (.int .i64 0) := (blk_cell hz 2).trans rfl
        have r0 := blk_frozen hz 0
        have r1 := blk_frozen hz 1
        have r2 := blk_frozen hz 2
        go_simp
        refine hK.out _ _ ?_
        clear hK K
        refine done_ (by kernel_rfl) ?_
        obtain ⟨hz3, hb3⟩ := stored hz hlo hb ⟨f.name, bt, (f.safe : Int)⟩
        obtain ⟨Wx, hWx⟩ : ∃ W, W = ((w'.setCell ⟨s', 0, none⟩ (.string f.name)).setCell ⟨s', 1, none⟩ (.string bt)).setCell ⟨s', 2, none⟩ (.int .i64 (f.safe : Int)) := ⟨_, rfl⟩
        rw [← hWx] at hz3 hb3 ⊢
        clear q0 q1 q2 r0 r1 r2 y0 y1 y2 y3 hz hb hWx z0 x0 x1 x2
        have q0 : Wx.cell? ⟨s', 0, none⟩ = some (.string f.name) := (blk_cell hz3 0).trans rfl
        have q1 : Wx.cell? ⟨s', 1, none⟩ = some (.string bt) := (blk_cell hz3 1).trans rfl
        have q2 : Wx.cell? ⟨s', 2, none⟩ = some (.int .i64 (f.safe : Int)) := (blk_cell hz3 2).trans rfl
        have r0 := blk_frozen hz3 0
        have r1 := blk_frozen hz3 1
        have r2 := blk_frozen hz3 2
        have HB3 := Aside0.mk hb3
        have HZ3 := Aside0.mk hz3
        clear hz3 hb3
        go_wp2_with (first
          | (go_at_call 60; refine (drop_put HR.out HB3.out hlo HZ3.out f.name HG.out.act.len).mono ?_; rintro e w4 ⟨rfl, hz4, hput⟩; have t0 : w4.cell? ⟨s', 0, none⟩ = some (.string f.name) := (blk_cell hz4 0).trans rfl; have t1 : w4.cell? ⟨s', 1, none⟩ = some (.string bt) := (blk_cell hz4 1).trans rfl; have t2 : w4.cell? ⟨s', 2, none⟩ = some (.int .i64 (f.safe : Int)) := (blk_cell hz4 2).trans rfl; have u0 := blk_frozen hz4 0; have HP := Aside0.mk hput; clear hz4 hput HR)
          | (go_at_call 56; refine (HP.out b ⟨b, f.b, f.safe⟩ bt HBt.out).mono ?_; rintro e w6 ⟨rfl, hr, ho⟩; have HR4 := Aside0.mk hr; have HO4 := Aside0.mk ho; clear hr ho HP)
          | (go_at_call 58; refine (Ends_after' HB2.out HO.out HR4.out HO4.out HG2.out go).mono ?_; rintro e w7 ⟨rfl, hr, ho⟩; have HR5 := Aside0.mk hr; have HO5 := Aside0.mk ho; clear hr ho HR4))
        go_ret
        exact ⟨rfl, HR5.out, HO5.out⟩
      | false =>
        rw [if_neg (by decide)]
        clear hg2
        go_enter Try.func46, Try.ntmps46
        go_wp2_with (first
          | (go_at_call 50; refine HM.out.mono ?_; rintro e w1 ⟨rfl, hb⟩; have HB := Aside0.mk hb; clear hb HM)
          | (go_at_call 59; refine (HGd.out _).mono ?_; rintro e w1b ⟨rfl, ⟨nd, rfl⟩⟩; have HB2 := Aside0.mk (pw_below_drewN HB.out nd))
          | (go_at_call 57; refine (HBg.out _ HB2.out).mono ?_; rintro e w2 ⟨rfl, hr, ho⟩; have HR := Aside0.mk hr; have HO := Aside0.mk ho; clear hr ho HBg)
          | (go_at_call 58; refine (Ends_after' HB2.out HO.out (HR.out.at).grow (Only.refl _ _) HG.out.act go).mono ?_; rintro e w4 ⟨rfl, hr, ho⟩; have HR4 := Aside0.mk hr; have HO4 := Aside0.mk ho; clear hr ho HR))
        go_ret
        exact ⟨rfl, HR4.out, HO4.out⟩
  · rw [if_pos c3]
    obtain ⟨r, hr⟩ : ∃ r, r = d.there a := ⟨_, rfl⟩
    rw [← hr] at c1 c2 HM ⊢
    clear hr c3 h hg2
    go_enter Try.func46, Try.ntmps46
    go_wp2_with (first
      | (go_at_call 50; refine HM.out.mono ?_; rintro e w1 ⟨rfl, hb⟩; have HB := Aside0.mk hb; clear hb HM))
    go_ret
    exact ⟨rfl, (HW.out.below HB.out).at.grow, (Only.refl S w).below HB.out⟩
end
end Go.Proofs.Ytoedkemjidgbeaa.Dk
/- The reference's device: Append, New. -/
namespace Go.Proofs.Ytoedkemjidgbeaa.Dk
open Go Go.RowKit Go.Proofs.YtoedkemjidgbeaaW.PrintWords Go.Proofs.YtoedkemjidgbeaaW.PrintLast Go.Proofs.YtoedkemjidgbeaaW.PrintMore Go.Proofs.YtoedkemjidgbeaaMy Go.Proofs.Ytoedkemjidgbeaa Go.Proofs.YtoedkemjidgbeaaPw Go.Proofs.Ytoedkemjidgbeaa.PAll
set_option linter.unusedVariables false
set_option linter.unusedSimpArgs false
def DS.rappend (d : DS) (s : ByteArray) (x : List Int) : Int × DS :=
  if d.ready s ≠ 0 then (d.ready s, d) else if d.free < (x.length : Int) then (6, d) else (errIf d.goes, endIf d.goes (d.act.rput ⟨s, (d.fileOr s).b ++ x, (d.fileOr s).safe⟩))
theorem nil_app (s : ByteArray) : (⟨#[]⟩ : ByteArray) ++ s = s := by
  apply bytes_inj
  rw [bytesOf_append]
  rfl
theorem ready_cases (d : DS) (s : ByteArray) : d.ready s = 0 ∨ ((d.ready s == 0) = false ∧ (d.ready s != 0) = true ∧ d.ready s ≠ 0) := by
  by_cases c : d.ready s = 0
  · exact .inl c
  · exact .inr ⟨beq_eq_false_iff_ne.mpr c, bne_iff_ne.mpr c, c⟩
section
variable {S S1 : Nat → Prop} {W W1 w : World} {g : Nat} {d : DS} {v v1 : Value}
theorem stored3 {w2 w' : World} {s' : Nat} {a b c : Value} (hz : w'.heap[s']? = some (.cells #[a, b, c] 75 (0, 0))) (hlo : w2.heap.size ≤ s') (hb : Below w2.heap.size w2 w') (x : S75) : (((w'.setCell ⟨s', 0, none⟩ (.string x.f0)).setCell ⟨s', 1, none⟩ (.string x.f1)).setCell ⟨s', 2, none⟩ (.int .i64 x.f2)).heap[s']? = some (fileLit x) ∧ Below w2.heap.size w2 (((w'.setCell ⟨s', 0, none⟩ (.string x.f0)).setCell ⟨s', 1, none⟩ (.string x.f1)).setCell ⟨s', 2, none⟩ (.int .i64 x.f2)) :=
  ⟨blk_set (blk_set (blk_set hz 0 _) 1 _) 2 _, ((hb.setCell hlo _).setCell hlo _).setCell hlo _⟩
theorem RefW.atNo (h : RefW S w g d v) {s : ByteArray} (hat : atI d.files s = -1) (hl : d.files.length ≤ 4096) {w' : World} (hb : Below w.heap.size w w') : Calls Try.prog 51 #[.pointer (some ⟨g, 0, none⟩), .string s] w' fun e w'' => e = .returned (.int .i64 (-1)) ∧ Below w'.heap.size w' w'' := by
  have h2 := RAt_Q (h.below hb) s hl
  rw [hat] at h2
  exact h2
theorem put_after0 {w2 wx : World} {v : Value} {d2 : DS} (r : RefW S w2 g d2 v) (hb : Below w2.heap.size w2 wx) (s : ByteArray) (x : List Int) {bt : ByteArray} (he : bt = strOfNums x) (hl : d2.files.length ≤ 4096) : Calls Try.prog 56 #[.pointer (some ⟨g, 0, none⟩), .agg #[.string s, .string bt, .int .i64 0]] wx fun e w' => e = .returned (.tuple #[]) ∧ RefAt (Grow S w2) w' g (d2.rput ⟨s, x, 0⟩) ∧ Only S w2 w' := put_after r hb ⟨s, x, 0⟩ he hl
theorem lose_after {w2 w3 : World} {d2 : DS} {v : Value} (r3 : RefW (Grow S w2) w3 g d2 v) (hg : d2.RG) : Calls Try.prog 48 #[.pointer (some ⟨g, 0, none⟩), .int .i64 d2.keep, .bool d2.torn] w3.drew fun e w' => e = .returned (.tuple #[]) ∧ RefAt (Grow (Grow S w2) w3) w' g d2.ends ∧ Only (Grow S w2) w3 w' := by
  refine (RLose_Q (r3.below (W1 := w3.drew) (below_drew1 (Below.refl _ _))) hg.fit hg.safe d2.keep d2.torn hg.len).mono ?_
  rintro e w' ⟨he, hr, ho⟩
  exact ⟨he, hr, ((Only.refl _ w3).below (below_drew1 (Below.refl _ _))).trans ho⟩
set_option maxHeartbeats 2000000 in
set_option maxRecDepth 100000 in
theorem RAppend_Q (h : RefW S w g d v) (hok : d.Ok) (hg : d.RG) (s : ByteArray) {x : List Int} {sb : ByteArray} (hsb : sb = strOfNums x) (hx : x.length ≤ 4294967296) (hg2 : d.ready s = 0 → ¬ d.free < (x.length : Int) → (d.act.rput ⟨s, (d.fileOr s).b ++ x, (d.fileOr s).safe⟩).RG) : Calls Try.prog 43 #[.pointer (some ⟨g, 0, none⟩), .string s, .string sb] w fun e w' => e = .returned (.int .i64 (d.rappend s x).1) ∧ RefAt (Grow S w) w' g (d.rappend s x).2 ∧ Only S w w' := by
  have HM := Aside0.mk (RMay_Q h s false hg.len)
  have HW := Aside0.mk h
  have HOk := Aside0.mk hok
  have HG := Aside0.mk hg
  have HSb := Aside0.mk hsb
  have HX := Aside0.mk hx
  unfold DS.rappend
  rcases ready_cases d s with ht | ⟨c1, c2, c3⟩
  · rw [if_neg (fun h => h ht)]
    rw [ht] at HM
    have hg2 := hg2 ht
    have HAc := Aside0.mk (fun w1 (hb : Below w.heap.size w w1) => RAct_Q (HW.out.below hb) HOk.out)
    have HFr := Aside0.mk (fun w1 (hb : Below w.heap.size w w1) => RFree_Q (HW.out.below hb) HG.out.fit HG.out.len)
    have HFc := Aside0.mk (show d.free ≤ 1048576 from by have := HG.out.fit.room; have := sizes_nonneg d.files; unfold DS.free; omega)
    obtain ⟨fr, hfr⟩ : ∃ r, r = d.free := ⟨_, rfl⟩
    rw [← hfr] at HFr HFc hg2 ⊢
    clear hfr
    obtain ⟨m, hm⟩ : ∃ m, m = x.length := ⟨_, rfl⟩
    have hszb : sb.size = m := by rw [hsb, hm, str_size2]
    rw [← hm] at hg2 ⊢
    have HMm := Aside0.mk hm
    clear h hok hg hsb hx ht hm
    by_cases hfull : fr < (m : Int)
    · have b1 : decide (fr < (m : Int)) = true := decide_eq_true hfull
      rw [if_pos hfull]
      clear hg2
      go_enter Try.func43, Try.ntmps43
      go_wp2_with (first
        | (go_at_call 50; refine HM.out.mono ?_; rintro e w1 ⟨rfl, hb⟩; have HB := Aside0.mk hb; clear hb HM)
        | (go_at_call 29; refine (HFr.out _ HB.out).mono ?_; rintro e w2 ⟨rfl, hb⟩; have HB1 := Aside0.mk (HB.out.trans (hb.mono HB.out.size)); clear hb HFr))
      go_ret
      exact ⟨rfl, (HW.out.below HB1.out).at.grow, (Only.refl S w).below HB1.out⟩
    · have b1 : decide (fr < (m : Int)) = false := decide_eq_false hfull
      rw [if_neg hfull]
      have HG2 := Aside0.mk (hg2 hfull)
      have HMs := Aside0.mk (show m ≤ 1048576 from by have := HFc.out; omega)
      clear hg2 hfull
      obtain ⟨go, hgo⟩ : ∃ b, b = d.goes := ⟨_, rfl⟩
      rw [← hgo] at HAc ⊢
      clear hgo
      cases hff : findF d.files s with
      | none =>
        rw [fileOr_none hff] at HG2 ⊢
        have HAt := Aside0.mk (atI_none hff)
        clear hff
        simp only [List.nil_append] at HG2 ⊢
        have hcat : (⟨#[]⟩ : ByteArray) ++ sb = sb := nil_app sb
        have hadd : ((m : Nat) : Int) ≤ 9223372036854775807 := by have := HMs.out; omega
        cases go
        · go_enter Try.func43, Try.ntmps43
          go_wp2_with (first
            | (go_at_call 50; refine HM.out.mono ?_; rintro e w1 ⟨rfl, hb⟩; have HB := Aside0.mk hb; clear hb HM)
            | (go_at_call 29; refine (HFr.out _ HB.out).mono ?_; rintro e w2 ⟨rfl, hb⟩; have HB1 := Aside0.mk (HB.out.trans (hb.mono HB.out.size)); clear hb HFr)
            | (go_at_call 55; refine (HAc.out _ HB1.out).mono ?_; rintro e w3 ⟨rfl, hr, ho⟩; have HR := Aside0.mk hr; have HO := Aside0.mk ho; clear hr ho HAc)
            | (go_at_call 51; refine (HR.out.atNo HAt.out HG.out.len (below_alloc (Below.refl _ _) _)).mono ?_; rintro e w5 ⟨rfl, hb5⟩; have hb35 : Below w3.heap.size w3 w5 := (below_alloc (Below.refl _ _) _).trans (hb5.mono (by simp)); have hz := ((hb5.block w3.heap.size (by simp)).trans (blk_new w3 (fileLit ⟨s, ⟨#[]⟩, 0⟩))); have q0 : w5.cell? ⟨w3.heap.size, 0, none⟩ = some (.string s) := (blk_cell hz 0).trans rfl; have q1 : w5.cell? ⟨w3.heap.size, 1, none⟩ = some (.string ⟨#[]⟩) := (blk_cell hz 1).trans rfl; have q2 : w5.cell? ⟨w3.heap.size, 2, none⟩ = some (.int .i64 0) := (blk_cell hz 2).trans rfl; have r1 := blk_frozen hz 1; have HBx := Aside0.mk (show Below w3.heap.size w3 (w5.setCell ⟨w3.heap.size, 1, none⟩ (.string sb)) from hb35.setCell (Nat.le_refl _) _); clear hb35 hb5 hz)
            | (go_at_call 56; refine (put_after0 HR.out HBx.out s x HSb.out HG.out.act.len).mono ?_; rintro e w4 ⟨rfl, hr, ho⟩; have HR4 := Aside0.mk hr; have HO4 := Aside0.mk ho; clear hr ho HR))
          go_ret
          exact ⟨rfl, HR4.out.lessN (Nat.le_trans HB1.out.size HO.out.size), (((Only.refl S w).below HB1.out).trans HO.out).trans HO4.out⟩
        · go_enter Try.func43, Try.ntmps43
          go_wp2_with (first
            | (go_at_call 50; refine HM.out.mono ?_; rintro e w1 ⟨rfl, hb⟩; have HB := Aside0.mk hb; clear hb HM)
            | (go_at_call 29; refine (HFr.out _ HB.out).mono ?_; rintro e w2 ⟨rfl, hb⟩; have HB1 := Aside0.mk (HB.out.trans (hb.mono HB.out.size)); clear hb HFr)
            | (go_at_call 55; refine (HAc.out _ HB1.out).mono ?_; rintro e w3 ⟨rfl, hr, ho⟩; have HR := Aside0.mk hr; have HO := Aside0.mk ho; clear hr ho HAc)
            | (go_at_call 51; refine (HR.out.atNo HAt.out HG.out.len (below_alloc (Below.refl _ _) _)).mono ?_; rintro e w5 ⟨rfl, hb5⟩; have hb35 : Below w3.heap.size w3 w5 := (below_alloc (Below.refl _ _) _).trans (hb5.mono (by simp)); have hz := ((hb5.block w3.heap.size (by simp)).trans (blk_new w3 (fileLit ⟨s, ⟨#[]⟩, 0⟩))); have q0 : w5.cell? ⟨w3.heap.size, 0, none⟩ = some (.string s) := (blk_cell hz 0).trans rfl; have q1 : w5.cell? ⟨w3.heap.size, 1, none⟩ = some (.string ⟨#[]⟩) := (blk_cell hz 1).trans rfl; have q2 : w5.cell? ⟨w3.heap.size, 2, none⟩ = some (.int .i64 0) := (blk_cell hz 2).trans rfl; have r1 := blk_frozen hz 1; have HBx := Aside0.mk (show Below w3.heap.size w3 (w5.setCell ⟨w3.heap.size, 1, none⟩ (.string sb)) from hb35.setCell (Nat.le_refl _) _); clear hb35 hb5 hz)
            | (go_at_call 56; refine (put_after0 HR.out HBx.out s x HSb.out HG.out.act.len).mono ?_; rintro e w4 ⟨rfl, ⟨v4, hr⟩, ho⟩; have z5 : w4.cell? ⟨g, 5, none⟩ = some (.int .i64 d.keep) := hr.cell 5; have z6 : w4.cell? ⟨g, 6, none⟩ = some (.bool d.torn) := hr.cell 6; have HLo := Aside0.mk (lose_after hr HG2.out); have HO4 := Aside0.mk ho; clear hr ho HR))
          refine start_ (n := 10) (S := fun w' => w'.cell? ⟨g, 5, none⟩ = some (.int .i64 d.keep) ∧ w'.cell? ⟨g, 6, none⟩ = some (.bool d.torn)) (ds := [9]) #[false, false, false, false, false, false, false, false, false, false] (by kernel_rfl) rfl rfl ⟨z5, z6⟩ (fun hHeld => ?_)
          refine pure_ (i := 0) (N := some 47) (v := ?_) (a' := ?_) #[true, false, false, false, false, false, false, false, false, false] rfl rfl (by kernel_rfl) (fun _ _ _ h => h) (Or.inl ⟨by rfl, ?_⟩) ?_ ?_
          rotate_left
          · intro w'
            go_simp
            with_reducible rfl
          rotate_left
          · simp only [Act.put, List.setIfInBounds_toArray, List.set_cons_zero, List.set_cons_succ, i64_w, i32_w]
            rfl
          refine pure_ (i := 1) (N := some 48) (v := ?_) (a' := ?_) #[true, true, false, false, false, false, false, false, false, false] rfl rfl (by kernel_rfl) (fun _ _ _ h => h) (Or.inl ⟨by rfl, ?_⟩) ?_ ?_
          rotate_left
          · intro w'
            go_simp
            with_reducible rfl
          rotate_left
          · simp only [Act.put, List.setIfInBounds_toArray, List.set_cons_zero, List.set_cons_succ, i64_w, i32_w]
            rfl
          refine pure_ (i := 2) (N := some 49) (v := ?_) (a' := ?_) #[true, true, true, false, false, false, false, false, false, false] rfl rfl (by kernel_rfl) (fun _ _ _ h => h) (Or.inl ⟨by rfl, ?_⟩) ?_ ?_
          rotate_left
          · intro w'
            go_simp
            with_reducible rfl
          rotate_left
          · simp only [Act.put, List.setIfInBounds_toArray, List.set_cons_zero, List.set_cons_succ, i64_w, i32_w]
            rfl
          refine pure_ (i := 3) (N := some 50) (v := ?_) (a' := ?_) #[true, true, true, true, false, false, false, false, false, false] rfl rfl (by kernel_rfl) (fun _ _ _ h => h) (Or.inl ⟨by rfl, ?_⟩) ?_ ?_
          rotate_left
          · intro w'
            go_simp
            with_reducible rfl
          rotate_left
          · simp only [Act.put, List.setIfInBounds_toArray, List.set_cons_zero, List.set_cons_succ, i64_w, i32_w]
            rfl
          refine take_ (i := 4) (N := some 51) (v := ?_) (a' := ?_) #[true, true, true, true, true, false, false, false, false, false] rfl rfl (by kernel_rfl) (fun _ _ _ h => h) (Or.inl ⟨by rfl, ?_⟩) hHeld ?_ ?_
          rotate_left
          · intro w' s0
            obtain ⟨y0, y1⟩ := s0
            go_simp
            with_reducible rfl
          rotate_left
          · simp only [Act.put, List.setIfInBounds_toArray, List.set_cons_zero, List.set_cons_succ, i64_w, i32_w]
            rfl
          refine pure_ (i := 5) (N := some 52) (v := ?_) (a' := ?_) #[true, true, true, true, true, true, false, false, false, false] rfl rfl (by kernel_rfl) (fun _ _ _ h => h) (Or.inl ⟨by rfl, ?_⟩) ?_ ?_
          rotate_left
          · intro w'
            go_simp
            with_reducible rfl
          rotate_left
          · simp only [Act.put, List.setIfInBounds_toArray, List.set_cons_zero, List.set_cons_succ, i64_w, i32_w]
            rfl
          refine pure_ (i := 6) (N := some 53) (v := ?_) (a' := ?_) #[true, true, true, true, true, true, true, false, false, false] rfl rfl (by kernel_rfl) (fun _ _ _ h => h) (Or.inl ⟨by rfl, ?_⟩) ?_ ?_
          rotate_left
          · intro w'
            go_simp
            with_reducible rfl
          rotate_left
          · simp only [Act.put, List.setIfInBounds_toArray, List.set_cons_zero, List.set_cons_succ, i64_w, i32_w]
            rfl
          refine pure_ (i := 7) (N := some 54) (v := ?_) (a' := ?_) #[true, true, true, true, true, true, true, true, false, false] rfl rfl (by kernel_rfl) (fun _ _ _ h => h) (Or.inl ⟨by rfl, ?_⟩) ?_ ?_
          rotate_left
          · intro w'
            go_simp
            with_reducible rfl
          rotate_left
          · simp only [Act.put, List.setIfInBounds_toArray, List.set_cons_zero, List.set_cons_succ, i64_w, i32_w]
            rfl
          refine take_ (i := 8) (N := some 55) (v := ?_) (a' := ?_) #[true, true, true, true, true, true, true, true, true, false] rfl rfl (by kernel_rfl) (fun _ _ _ h => h) (Or.inl ⟨by rfl, ?_⟩) hHeld ?_ ?_
          rotate_left
          · intro w' s0
            obtain ⟨y0, y1⟩ := s0
            go_simp
            with_reducible rfl
          rotate_left
          · simp only [Act.put, List.setIfInBounds_toArray, List.set_cons_zero, List.set_cons_succ, i64_w, i32_w]
            rfl
          refine last_ (i := 9) (N := some 56) #[true, true, true, true, true, true, true, true, true, true] rfl rfl (by kernel_rfl) (by decide) (fun K hK => ?_)
          refine goes_ Try.func48 (by kernel_rfl) rfl #[.pointer (some ⟨g, 0, none⟩), .int .i64 d.keep, .bool d.torn] (by rfl) rfl rfl (by (try simp only [List.map_toArray, List.map_cons, List.map_nil]); first | done | rfl) ?_
          refine (HLo.out).mono ?_
          rintro e wo ⟨rfl, hDo, hOo⟩
          refine ⟨_, rfl, ?_⟩
          have HDo := Aside0.mk hDo
          have HOo := Aside0.mk hOo
          clear hDo hOo
          refine hK.out _ _ ?_
          clear hK K
          refine done_ (by kernel_rfl) ?_
          go_wp2
          go_ret
          exact ⟨rfl, (HDo.out.less HO4.out.size).lessN (Nat.le_trans HB1.out.size HO.out.size), ((((Only.refl S w).below HB1.out).trans HO.out).trans (HO4.out.step HOo.out))⟩
      | some f =>
        rw [fileOr_some hff] at HG2 ⊢
        obtain ⟨i, hat, hi, hfi⟩ := atI_some hff
        obtain ⟨hfm, hnm⟩ := findF_some hff
        subst hnm
        have HSl := Aside0.mk (size_le2 hfm HG.out.fit.fits HG.out.fit.room)
        obtain ⟨A, c, ev, hall⟩ := HW.out.file
        obtain ⟨ad, ea, hrest⟩ := hall i hi
        clear hrest
        subst ev
        subst ea
        have HI := Aside0.mk hi
        have HAt := Aside0.mk hat
        have HFi := Aside0.mk (show d.files[i]? = some f by rw [List.getElem?_eq_getElem hi, hfi])
        clear hall hfi hat hi hfm hff
        obtain ⟨bt, hbt⟩ : ∃ b, b = strOfNums f.b := ⟨_, rfl⟩
        have HBt := Aside0.mk hbt
        obtain ⟨bl, hbl⟩ : ∃ b, b = f.b.length := ⟨_, rfl⟩
        have hsz : bt.size = bl := by rw [hbt, hbl, str_size2]
        have HBl := Aside0.mk hbl
        clear hbt hbl
        obtain ⟨st, hst⟩ : ∃ s, s = strOfNums (f.b ++ x) := ⟨_, rfl⟩
        have hcat : bt ++ sb = st := by rw [hst, strOfNums_append, HBt.out, HSb.out]
        have HSt := Aside0.mk hst
        have hadd : (bt.size : Int) + (sb.size : Int) ≤ 9223372036854775807 := by
          have := HSl.out; have := HMs.out; have := HBl.out; omega
        have hadd2 : (bl : Int) + (m : Int) ≤ 9223372036854775807 := by
          have := HSl.out; have := HMs.out; have := HBl.out; omega
        clear hst
        obtain ⟨n, hn⟩ : ∃ n, n = d.files.length := ⟨_, rfl⟩
        have HN := Aside0.mk hn
        rw [← hn] at HW HI HAc
        have hi1 : (0 : Int) ≤ (i : Int) := Int.natCast_nonneg _
        have hi1b : decide ((0 : Int) ≤ (i : Int)) = true := decide_eq_true hi1
        have hi2 : (i : Int) < (n : Int) := Int.ofNat_lt.2 HI.out
        have hi3 : i < n := HI.out
        clear hn
        cases go
        · go_enter Try.func43, Try.ntmps43
          go_wp2_with (first
            | (go_at_call 50; refine HM.out.mono ?_; rintro e w1 ⟨rfl, hb⟩; have HB := Aside0.mk hb; clear hb HM)
            | (go_at_call 29; refine (HFr.out _ HB.out).mono ?_; rintro e w2 ⟨rfl, hb⟩; have HB1 := Aside0.mk (HB.out.trans (hb.mono HB.out.size)); clear hb HFr)
            | (go_at_call 55; refine (HAc.out _ HB1.out).mono ?_; rintro e w3 ⟨rfl, hr, ho⟩; have HR := Aside0.mk hr; have HO := Aside0.mk ho; clear hr ho HAc)
            | (go_at_call 51; refine (HR.out.atQ HAt.out HG.out.len (below_alloc (Below.refl _ _) _)).mono ?_; rintro e w5 ⟨rfl, hb5⟩; have hb35 : Below w3.heap.size w3 w5 := (below_alloc (Below.refl _ _) _).trans (hb5.mono (by simp)); have hr5 := HR.out.below hb35; have z0 : w5.cell? ⟨g, 0, none⟩ = some (.slice (some ad) n c) := hr5.cell 0; have HA := Aside0.mk (fun w' (hb : Below w5.heap.size w5 w') => hr5.atQ HAt.out HG.out.len hb); obtain ⟨x0, x1, x2⟩ := hr5.fileAt HFi.out HBt.out; have HZ5 := Aside0.mk ((hb5.block w3.heap.size (by simp)).trans (blk_new w3 (fileLit ⟨f.name, ⟨#[]⟩, 0⟩))); have HB5 := Aside0.mk hb35; clear hr5 hb35 hb5))
          refine start_ (n := 10) (S := fun w' => w'.cell? ⟨g, 0, none⟩ = some (.slice (some ad) n c) ∧ w'.cell? (ad.add (i * 3)) = some (.string f.name) ∧ w'.cell? ⟨(ad.add (i * 3)).block, (ad.add (i * 3)).off + 1, none⟩ = some (.string bt) ∧ w'.cell? ⟨(ad.add (i * 3)).block, (ad.add (i * 3)).off + 2, none⟩ = some (.int .i64 (f.safe : Int))) (ds := [9]) #[false, false, false, false, false, false, false, false, false, false] (by kernel_rfl) rfl rfl ⟨z0, x0, x1, x2⟩ (fun hHeld => ?_)
          refine pure_ (i := 0) (N := some 29) (v := ?_) (a' := ?_) #[true, false, false, false, false, false, false, false, false, false] rfl rfl (by kernel_rfl) (fun _ _ _ h => h) (Or.inl ⟨by rfl, ?_⟩) ?_ ?_
          rotate_left
          · intro w'
            go_simp
            with_reducible rfl
          rotate_left
          · simp only [Act.put, List.setIfInBounds_toArray, List.set_cons_zero, List.set_cons_succ, i64_w, i32_w]
            rfl
          refine pure_ (i := 1) (N := some 30) (v := ?_) (a' := ?_) #[true, true, false, false, false, false, false, false, false, false] rfl rfl (by kernel_rfl) (fun _ _ _ h => h) (Or.inl ⟨by rfl, ?_⟩) ?_ ?_
          rotate_left
          · intro w'
            go_simp
            with_reducible rfl
          rotate_left
          · simp only [Act.put, List.setIfInBounds_toArray, List.set_cons_zero, List.set_cons_succ, i64_w, i32_w]
            rfl
          refine pure_ (i := 2) (N := some 31) (v := ?_) (a' := ?_) #[true, true, true, false, false, false, false, false, false, false] rfl rfl (by kernel_rfl) (fun _ _ _ h => h) (Or.inl ⟨by rfl, ?_⟩) ?_ ?_
          rotate_left
          · intro w'
            go_simp
            with_reducible rfl
          rotate_left
          · simp only [Act.put, List.setIfInBounds_toArray, List.set_cons_zero, List.set_cons_succ, i64_w, i32_w]
            rfl
          refine take_ (i := 3) (N := some 32) (v := ?_) (a' := ?_) #[true, true, true, true, false, false, false, false, false, false] rfl rfl (by kernel_rfl) (fun _ _ _ h => h) (Or.inl ⟨by rfl, ?_⟩) hHeld ?_ ?_
          rotate_left
          · intro w' s0
            obtain ⟨y0, y1, y2, y3⟩ := s0
            go_simp
            with_reducible rfl
          rotate_left
          · simp only [Act.put, List.setIfInBounds_toArray, List.set_cons_zero, List.set_cons_succ, i64_w, i32_w]
            rfl
          refine pure_ (i := 4) (N := some 33) (v := ?_) (a' := ?_) #[true, true, true, true, true, false, false, false, false, false] rfl rfl (by kernel_rfl) (fun _ _ _ h => h) (Or.inl ⟨by rfl, ?_⟩) ?_ ?_
          rotate_left
          · intro w'
            go_simp
            with_reducible rfl
          rotate_left
          · simp only [Act.put, List.setIfInBounds_toArray, List.set_cons_zero, List.set_cons_succ, i64_w, i32_w]
            rfl
          refine pure_ (i := 5) (N := some 34) (v := ?_) (a' := ?_) #[true, true, true, true, true, true, false, false, false, false] rfl rfl (by kernel_rfl) (fun _ _ _ h => h) (Or.inl ⟨by rfl, ?_⟩) ?_ ?_
          rotate_left
          · intro w'
            go_simp
            with_reducible rfl
          rotate_left
          · simp only [Act.put, List.setIfInBounds_toArray, List.set_cons_zero, List.set_cons_succ, i64_w, i32_w]
            rfl
          clear hHeld
          refine one_ (i := 6) (N := some 35) #[true, true, true, true, true, true, true, false, false, false] rfl rfl (by kernel_rfl) (by decide) (fun K hK => ?_)
          refine goes_ Try.func51 (by kernel_rfl) rfl #[.pointer (some ⟨g, 0, none⟩), .string f.name] (by rfl) rfl rfl (by (try simp only [List.map_toArray, List.map_cons, List.map_nil]); first | done | rfl) ?_
          refine (HA.out _ (below_drew1 (Below.refl _ _))).mono ?_
          rintro e w6 ⟨rfl, hb3⟩
          refine ⟨_, rfl, ?_⟩
          have hbw : Below w5.heap.size w5 w6 := (below_drew1 (Below.refl _ _)).trans hb3
          have hS3 := And.intro (pw_cell_below hbw z0) (And.intro (pw_cell_below hbw x0) (And.intro (pw_cell_below hbw x1) (pw_cell_below hbw x2)))
          refine hK.out _ _ hS3 (fun hHeld => ?_)
          clear hK K
          refine norm_ (a' := ?_) ?_ ?_
          rotate_left
          · show Act.put _ (some 35) _ = _
            simp only [Act.put, List.setIfInBounds_toArray, List.set_cons_zero, List.set_cons_succ, i64_w, i32_w]
            rfl
          refine pure_ (i := 7) (N := some 36) (v := ?_) (a' := ?_) #[true, true, true, true, true, true, true, true, false, false] rfl rfl (by kernel_rfl) (fun _ _ _ h => h) (Or.inl ⟨by rfl, ?_⟩) ?_ ?_
          rotate_left
          · intro w'
            go_simp
            with_reducible rfl
          rotate_left
          · simp only [Act.put, List.setIfInBounds_toArray, List.set_cons_zero, List.set_cons_succ, i64_w, i32_w]
            rfl
          refine take_ (i := 8) (N := some 37) (v := ?_) (a' := ?_) #[true, true, true, true, true, true, true, true, true, false] rfl rfl (by kernel_rfl) (fun _ _ _ h => h) (Or.inl ⟨by rfl, ?_⟩) hHeld ?_ ?_
          rotate_left
          · intro w' s0
            obtain ⟨y0, y1, y2, y3⟩ := s0
            go_simp
            with_reducible rfl
          rotate_left
          · simp only [Act.put, List.setIfInBounds_toArray, List.set_cons_zero, List.set_cons_succ, i64_w, i32_w]
            rfl
          refine last_ (i := 9) (N := none) #[true, true, true, true, true, true, true, true, true, true] rfl rfl (by kernel_rfl) (by decide) (fun K hK => ?_)
          rw [if_pos (by rfl)]
          clear HA
          have hz := (hbw.block w3.heap.size (blk_lt HZ5.out)).trans HZ5.out
          have hb36 : Below w3.heap.size w3 w6 := HB5.out.trans (hbw.mono HB5.out.size)
          have hlo : w3.heap.size ≤ w3.heap.size := Nat.le_refl _
          have q0 : w6.cell? ⟨w3.heap.size, 0, none⟩ = some (.string f.name) := (blk_cell hz 0).trans rfl
          have q1 : w6.cell? ⟨w3.heap.size, 1, none⟩ = some (.string ⟨#[]⟩) := (blk_cell hz 1).trans rfl
          have q2 : w6.cell? ⟨w3.heap.size, 2, none⟩ = some (.int .i64 0) := (blk_cell hz 2).trans rfl
          have r0 := blk_frozen hz 0
          have r1 := blk_frozen hz 1
          have r2 := blk_frozen hz 2
          go_simp
          refine hK.out _ _ ?_
          clear hK K
          refine done_ (by kernel_rfl) ?_
          obtain ⟨hz3, hb3⟩ := stored3 hz hlo hb36 ⟨f.name, bt, (f.safe : Int)⟩
          obtain ⟨Wx, hWx⟩ : ∃ W, W = ((w6.setCell ⟨w3.heap.size, 0, none⟩ (.string f.name)).setCell ⟨w3.heap.size, 1, none⟩ (.string bt)).setCell ⟨w3.heap.size, 2, none⟩ (.int .i64 (f.safe : Int)) := ⟨_, rfl⟩
          rw [← hWx] at hz3 hb3 ⊢
          clear q0 q1 q2 r0 r1 r2 hz hb36 hWx z0 x0 x1 x2 hbw hHeld
          have q0 : Wx.cell? ⟨w3.heap.size, 0, none⟩ = some (.string f.name) := (blk_cell hz3 0).trans rfl
          have q1 : Wx.cell? ⟨w3.heap.size, 1, none⟩ = some (.string bt) := (blk_cell hz3 1).trans rfl
          have q2 : Wx.cell? ⟨w3.heap.size, 2, none⟩ = some (.int .i64 (f.safe : Int)) := (blk_cell hz3 2).trans rfl
          have r1 := blk_frozen hz3 1
          have HBx := Aside0.mk (show Below w3.heap.size w3 (Wx.setCell ⟨w3.heap.size, 1, none⟩ (.string st)) from hb3.setCell hlo _)
          clear hz3 hb3 HZ5
          go_wp2_with (first
            | (go_at_call 56; refine (put_after HR.out HBx.out ⟨f.name, f.b ++ x, f.safe⟩ HSt.out HG.out.act.len).mono ?_; rintro e w4 ⟨rfl, hr, ho⟩; have HR4 := Aside0.mk hr; have HO4 := Aside0.mk ho; clear hr ho HR))
          go_ret
          exact ⟨rfl, HR4.out.lessN (Nat.le_trans HB1.out.size HO.out.size), (((Only.refl S w).below HB1.out).trans HO.out).trans HO4.out⟩
        · go_enter Try.func43, Try.ntmps43
          go_wp2_with (first
            | (go_at_call 50; refine HM.out.mono ?_; rintro e w1 ⟨rfl, hb⟩; have HB := Aside0.mk hb; clear hb HM)
            | (go_at_call 29; refine (HFr.out _ HB.out).mono ?_; rintro e w2 ⟨rfl, hb⟩; have HB1 := Aside0.mk (HB.out.trans (hb.mono HB.out.size)); clear hb HFr)
            | (go_at_call 55; refine (HAc.out _ HB1.out).mono ?_; rintro e w3 ⟨rfl, hr, ho⟩; have HR := Aside0.mk hr; have HO := Aside0.mk ho; clear hr ho HAc)
            | (go_at_call 51; refine (HR.out.atQ HAt.out HG.out.len (below_alloc (Below.refl _ _) _)).mono ?_; rintro e w5 ⟨rfl, hb5⟩; have hb35 : Below w3.heap.size w3 w5 := (below_alloc (Below.refl _ _) _).trans (hb5.mono (by simp)); have hr5 := HR.out.below hb35; have z0 : w5.cell? ⟨g, 0, none⟩ = some (.slice (some ad) n c) := hr5.cell 0; have HA := Aside0.mk (fun w' (hb : Below w5.heap.size w5 w') => hr5.atQ HAt.out HG.out.len hb); obtain ⟨x0, x1, x2⟩ := hr5.fileAt HFi.out HBt.out; have HZ5 := Aside0.mk ((hb5.block w3.heap.size (by simp)).trans (blk_new w3 (fileLit ⟨f.name, ⟨#[]⟩, 0⟩))); have HB5 := Aside0.mk hb35; clear hr5 hb35 hb5))
          refine start_ (n := 10) (S := fun w' => w'.cell? ⟨g, 0, none⟩ = some (.slice (some ad) n c) ∧ w'.cell? (ad.add (i * 3)) = some (.string f.name) ∧ w'.cell? ⟨(ad.add (i * 3)).block, (ad.add (i * 3)).off + 1, none⟩ = some (.string bt) ∧ w'.cell? ⟨(ad.add (i * 3)).block, (ad.add (i * 3)).off + 2, none⟩ = some (.int .i64 (f.safe : Int))) (ds := [9]) #[false, false, false, false, false, false, false, false, false, false] (by kernel_rfl) rfl rfl ⟨z0, x0, x1, x2⟩ (fun hHeld => ?_)
          refine pure_ (i := 0) (N := some 29) (v := ?_) (a' := ?_) #[true, false, false, false, false, false, false, false, false, false] rfl rfl (by kernel_rfl) (fun _ _ _ h => h) (Or.inl ⟨by rfl, ?_⟩) ?_ ?_
          rotate_left
          · intro w'
            go_simp
            with_reducible rfl
          rotate_left
          · simp only [Act.put, List.setIfInBounds_toArray, List.set_cons_zero, List.set_cons_succ, i64_w, i32_w]
            rfl
          refine pure_ (i := 1) (N := some 30) (v := ?_) (a' := ?_) #[true, true, false, false, false, false, false, false, false, false] rfl rfl (by kernel_rfl) (fun _ _ _ h => h) (Or.inl ⟨by rfl, ?_⟩) ?_ ?_
          rotate_left
          · intro w'
            go_simp
            with_reducible rfl
          rotate_left
          · simp only [Act.put, List.setIfInBounds_toArray, List.set_cons_zero, List.set_cons_succ, i64_w, i32_w]
            rfl
          refine pure_ (i := 2) (N := some 31) (v := ?_) (a' := ?_) #[true, true, true, false, false, false, false, false, false, false] rfl rfl (by kernel_rfl) (fun _ _ _ h => h) (Or.inl ⟨by rfl, ?_⟩) ?_ ?_
          rotate_left
          · intro w'
            go_simp
            with_reducible rfl
          rotate_left
          · simp only [Act.put, List.setIfInBounds_toArray, List.set_cons_zero, List.set_cons_succ, i64_w, i32_w]
            rfl
          refine take_ (i := 3) (N := some 32) (v := ?_) (a' := ?_) #[true, true, true, true, false, false, false, false, false, false] rfl rfl (by kernel_rfl) (fun _ _ _ h => h) (Or.inl ⟨by rfl, ?_⟩) hHeld ?_ ?_
          rotate_left
          · intro w' s0
            obtain ⟨y0, y1, y2, y3⟩ := s0
            go_simp
            with_reducible rfl
          rotate_left
          · simp only [Act.put, List.setIfInBounds_toArray, List.set_cons_zero, List.set_cons_succ, i64_w, i32_w]
            rfl
          refine pure_ (i := 4) (N := some 33) (v := ?_) (a' := ?_) #[true, true, true, true, true, false, false, false, false, false] rfl rfl (by kernel_rfl) (fun _ _ _ h => h) (Or.inl ⟨by rfl, ?_⟩) ?_ ?_
          rotate_left
          · intro w'
            go_simp
            with_reducible rfl
          rotate_left
          · simp only [Act.put, List.setIfInBounds_toArray, List.set_cons_zero, List.set_cons_succ, i64_w, i32_w]
            rfl
          refine pure_ (i := 5) (N := some 34) (v := ?_) (a' := ?_) #[true, true, true, true, true, true, false, false, false, false] rfl rfl (by kernel_rfl) (fun _ _ _ h => h) (Or.inl ⟨by rfl, ?_⟩) ?_ ?_
          rotate_left
          · intro w'
            go_simp
            with_reducible rfl
          rotate_left
          · simp only [Act.put, List.setIfInBounds_toArray, List.set_cons_zero, List.set_cons_succ, i64_w, i32_w]
            rfl
          clear hHeld
          refine one_ (i := 6) (N := some 35) #[true, true, true, true, true, true, true, false, false, false] rfl rfl (by kernel_rfl) (by decide) (fun K hK => ?_)
          refine goes_ Try.func51 (by kernel_rfl) rfl #[.pointer (some ⟨g, 0, none⟩), .string f.name] (by rfl) rfl rfl (by (try simp only [List.map_toArray, List.map_cons, List.map_nil]); first | done | rfl) ?_
          refine (HA.out _ (below_drew1 (Below.refl _ _))).mono ?_
          rintro e w6 ⟨rfl, hb3⟩
          refine ⟨_, rfl, ?_⟩
          have hbw : Below w5.heap.size w5 w6 := (below_drew1 (Below.refl _ _)).trans hb3
          have hS3 := And.intro (pw_cell_below hbw z0) (And.intro (pw_cell_below hbw x0) (And.intro (pw_cell_below hbw x1) (pw_cell_below hbw x2)))
          refine hK.out _ _ hS3 (fun hHeld => ?_)
          clear hK K
          refine norm_ (a' := ?_) ?_ ?_
          rotate_left
          · show Act.put _ (some 35) _ = _
            simp only [Act.put, List.setIfInBounds_toArray, List.set_cons_zero, List.set_cons_succ, i64_w, i32_w]
            rfl
          refine pure_ (i := 7) (N := some 36) (v := ?_) (a' := ?_) #[true, true, true, true, true, true, true, true, false, false] rfl rfl (by kernel_rfl) (fun _ _ _ h => h) (Or.inl ⟨by rfl, ?_⟩) ?_ ?_
          rotate_left
          · intro w'
            go_simp
            with_reducible rfl
          rotate_left
          · simp only [Act.put, List.setIfInBounds_toArray, List.set_cons_zero, List.set_cons_succ, i64_w, i32_w]
            rfl
          refine take_ (i := 8) (N := some 37) (v := ?_) (a' := ?_) #[true, true, true, true, true, true, true, true, true, false] rfl rfl (by kernel_rfl) (fun _ _ _ h => h) (Or.inl ⟨by rfl, ?_⟩) hHeld ?_ ?_
          rotate_left
          · intro w' s0
            obtain ⟨y0, y1, y2, y3⟩ := s0
            go_simp
            with_reducible rfl
          rotate_left
          · simp only [Act.put, List.setIfInBounds_toArray, List.set_cons_zero, List.set_cons_succ, i64_w, i32_w]
            rfl
          refine last_ (i := 9) (N := none) #[true, true, true, true, true, true, true, true, true, true] rfl rfl (by kernel_rfl) (by decide) (fun K hK => ?_)
          rw [if_pos (by rfl)]
          clear HA
          have hz := (hbw.block w3.heap.size (blk_lt HZ5.out)).trans HZ5.out
          have hb36 : Below w3.heap.size w3 w6 := HB5.out.trans (hbw.mono HB5.out.size)
          have hlo : w3.heap.size ≤ w3.heap.size := Nat.le_refl _
          have q0 : w6.cell? ⟨w3.heap.size, 0, none⟩ = some (.string f.name) := (blk_cell hz 0).trans rfl
          have q1 : w6.cell? ⟨w3.heap.size, 1, none⟩ = some (.string ⟨#[]⟩) := (blk_cell hz 1).trans rfl
          have q2 : w6.cell? ⟨w3.heap.size, 2, none⟩ = some (.int .i64 0) := (blk_cell hz 2).trans rfl
          have r0 := blk_frozen hz 0
          have r1 := blk_frozen hz 1
          have r2 := blk_frozen hz 2
          go_simp
          refine hK.out _ _ ?_
          clear hK K
          refine done_ (by kernel_rfl) ?_
          obtain ⟨hz3, hb3⟩ := stored3 hz hlo hb36 ⟨f.name, bt, (f.safe : Int)⟩
          obtain ⟨Wx, hWx⟩ : ∃ W, W = ((w6.setCell ⟨w3.heap.size, 0, none⟩ (.string f.name)).setCell ⟨w3.heap.size, 1, none⟩ (.string bt)).setCell ⟨w3.heap.size, 2, none⟩ (.int .i64 (f.safe : Int)) := ⟨_, rfl⟩
          rw [← hWx] at hz3 hb3 ⊢
          clear q0 q1 q2 r0 r1 r2 hz hb36 hWx z0 x0 x1 x2 hbw hHeld
          have q0 : Wx.cell? ⟨w3.heap.size, 0, none⟩ = some (.string f.name) := (blk_cell hz3 0).trans rfl
          have q1 : Wx.cell? ⟨w3.heap.size, 1, none⟩ = some (.string bt) := (blk_cell hz3 1).trans rfl
          have q2 : Wx.cell? ⟨w3.heap.size, 2, none⟩ = some (.int .i64 (f.safe : Int)) := (blk_cell hz3 2).trans rfl
          have r1 := blk_frozen hz3 1
          have HBx := Aside0.mk (show Below w3.heap.size w3 (Wx.setCell ⟨w3.heap.size, 1, none⟩ (.string st)) from hb3.setCell hlo _)
          clear hz3 hb3 HZ5
          go_wp2_with (first
            | (go_at_call 56; refine (put_after HR.out HBx.out ⟨f.name, f.b ++ x, f.safe⟩ HSt.out HG.out.act.len).mono ?_; rintro e w4 ⟨rfl, ⟨v4, hr⟩, ho⟩; have z5 : w4.cell? ⟨g, 5, none⟩ = some (.int .i64 d.keep) := hr.cell 5; have z6 : w4.cell? ⟨g, 6, none⟩ = some (.bool d.torn) := hr.cell 6; have HLo := Aside0.mk (lose_after hr HG2.out); have HO4 := Aside0.mk ho; clear hr ho HR))
          refine start_ (n := 10) (S := fun w' => w'.cell? ⟨g, 5, none⟩ = some (.int .i64 d.keep) ∧ w'.cell? ⟨g, 6, none⟩ = some (.bool d.torn)) (ds := [9]) #[false, false, false, false, false, false, false, false, false, false] (by kernel_rfl) rfl rfl ⟨z5, z6⟩ (fun hHeld => ?_)
          refine pure_ (i := 0) (N := some 47) (v := ?_) (a' := ?_) #[true, false, false, false, false, false, false, false, false, false] rfl rfl (by kernel_rfl) (fun _ _ _ h => h) (Or.inl ⟨by rfl, ?_⟩) ?_ ?_
          rotate_left
          · intro w'
            go_simp
            with_reducible rfl
          rotate_left
          · simp only [Act.put, List.setIfInBounds_toArray, List.set_cons_zero, List.set_cons_succ, i64_w, i32_w]
            rfl
          refine pure_ (i := 1) (N := some 48) (v := ?_) (a' := ?_) #[true, true, false, false, false, false, false, false, false, false] rfl rfl (by kernel_rfl) (fun _ _ _ h => h) (Or.inl ⟨by rfl, ?_⟩) ?_ ?_
          rotate_left
          · intro w'
            go_simp
            with_reducible rfl
          rotate_left
          · simp only [Act.put, List.setIfInBounds_toArray, List.set_cons_zero, List.set_cons_succ, i64_w, i32_w]
            rfl
          refine pure_ (i := 2) (N := some 49) (v := ?_) (a' := ?_) #[true, true, true, false, false, false, false, false, false, false] rfl rfl (by kernel_rfl) (fun _ _ _ h => h) (Or.inl ⟨by rfl, ?_⟩) ?_ ?_
          rotate_left
          · intro w'
            go_simp
            with_reducible rfl
          rotate_left
          · simp only [Act.put, List.setIfInBounds_toArray, List.set_cons_zero, List.set_cons_succ, i64_w, i32_w]
            rfl
          refine pure_ (i := 3) (N := some 50) (v := ?_) (a' := ?_) #[true, true, true, true, false, false, false, false, false, false] rfl rfl (by kernel_rfl) (fun _ _ _ h => h) (Or.inl ⟨by rfl, ?_⟩) ?_ ?_
          rotate_left
          · intro w'
            go_simp
            with_reducible rfl
          rotate_left
          · simp only [Act.put, List.setIfInBounds_toArray, List.set_cons_zero, List.set_cons_succ, i64_w, i32_w]
            rfl
          refine take_ (i := 4) (N := some 51) (v := ?_) (a' := ?_) #[true, true, true, true, true, false, false, false, false, false] rfl rfl (by kernel_rfl) (fun _ _ _ h => h) (Or.inl ⟨by rfl, ?_⟩) hHeld ?_ ?_
          rotate_left
          · intro w' s0
            obtain ⟨y0, y1⟩ := s0
            go_simp
            with_reducible rfl
          rotate_left
          · simp only [Act.put, List.setIfInBounds_toArray, List.set_cons_zero, List.set_cons_succ, i64_w, i32_w]
            rfl
          refine pure_ (i := 5) (N := some 52) (v := ?_) (a' := ?_) #[true, true, true, true, true, true, false, false, false, false] rfl rfl (by kernel_rfl) (fun _ _ _ h => h) (Or.inl ⟨by rfl, ?_⟩) ?_ ?_
          rotate_left
          · intro w'
            go_simp
            with_reducible rfl
          rotate_left
          · simp only [Act.put, List.setIfInBounds_toArray, List.set_cons_zero, List.set_cons_succ, i64_w, i32_w]
            rfl
          refine pure_ (i := 6) (N := some 53) (v := ?_) (a' := ?_) #[true, true, true, true, true, true, true, false, false, false] rfl rfl (by kernel_rfl) (fun _ _ _ h => h) (Or.inl ⟨by rfl, ?_⟩) ?_ ?_
          rotate_left
          · intro w'
            go_simp
            with_reducible rfl
          rotate_left
          · simp only [Act.put, List.setIfInBounds_toArray, List.set_cons_zero, List.set_cons_succ, i64_w, i32_w]
            rfl
          refine pure_ (i := 7) (N := some 54) (v := ?_) (a' := ?_) #[true, true, true, true, true, true, true, true, false, false] rfl rfl (by kernel_rfl) (fun _ _ _ h => h) (Or.inl ⟨by rfl, ?_⟩) ?_ ?_
          rotate_left
          · intro w'
            go_simp
            with_reducible rfl
          rotate_left
          · simp only [Act.put, List.setIfInBounds_toArray, List.set_cons_zero, List.set_cons_succ, i64_w, i32_w]
            rfl
          refine take_ (i := 8) (N := some 55) (v := ?_) (a' := ?_) #[true, true, true, true, true, true, true, true, true, false] rfl rfl (by kernel_rfl) (fun _ _ _ h => h) (Or.inl ⟨by rfl, ?_⟩) hHeld ?_ ?_
          rotate_left
          · intro w' s0
            obtain ⟨y0, y1⟩ := s0
            go_simp
            with_reducible rfl
          rotate_left
          · simp only [Act.put, List.setIfInBounds_toArray, List.set_cons_zero, List.set_cons_succ, i64_w, i32_w]
            rfl
          refine last_ (i := 9) (N := some 56) #[true, true, true, true, true, true, true, true, true, true] rfl rfl (by kernel_rfl) (by decide) (fun K hK => ?_)
          refine goes_ Try.func48 (by kernel_rfl) rfl #[.pointer (some ⟨g, 0, none⟩), .int .i64 d.keep, .bool d.torn] (by rfl) rfl rfl (by (try simp only [List.map_toArray, List.map_cons, List.map_nil]); first | done | rfl) ?_
          refine (HLo.out).mono ?_
          rintro e wo ⟨rfl, hDo, hOo⟩
          refine ⟨_, rfl, ?_⟩
          have HDo := Aside0.mk hDo
          have HOo := Aside0.mk hOo
          clear hDo hOo
          refine hK.out _ _ ?_
          clear hK K
          refine done_ (by kernel_rfl) ?_
          go_wp2
          go_ret
          exact ⟨rfl, (HDo.out.less HO4.out.size).lessN (Nat.le_trans HB1.out.size HO.out.size), ((((Only.refl S w).below HB1.out).trans HO.out).trans (HO4.out.step HOo.out))⟩
  · rw [if_pos c3]
    obtain ⟨r, hr⟩ : ∃ r, r = d.ready s := ⟨_, rfl⟩
    rw [← hr] at c1 c2 HM ⊢
    clear hr c3 h hg2
    go_enter Try.func43, Try.ntmps43
    go_wp2_with (first
      | (go_at_call 50; refine HM.out.mono ?_; rintro e w1 ⟨rfl, hb⟩; have HB := Aside0.mk hb; clear hb HM))
    go_ret
    exact ⟨rfl, (HW.out.below HB.out).at.grow, (Only.refl S w).below HB.out⟩
theorem new_ref (room r : Int) (hr : min (max room 0) 1048576 = r) (W : World) (w : World) (hb : Below w.heap.size w W) (hs : W.heap.size = w.heap.size) : RefW (fun k => k = w.heap.size) (W.alloc (.cells (refCells (.slice none 0 0) ⟨[], r, false, 0, 0, 0, false⟩) 56 (0, 0))) w.heap.size (new room) (.slice none 0 0) := by
  unfold new
  rw [hr]
  refine ⟨?_, rfl, Kd.R_nil _ _ _ _ _⟩
  have h := blk_new W (.cells (refCells (.slice none 0 0) ⟨[], r, false, 0, 0, 0, false⟩) 56 (0, 0))
  rw [hs] at h
  exact h
set_option maxHeartbeats 2000000 in
set_option maxRecDepth 100000 in
theorem RNew_Q (w : World) (room : Int) : Calls Try.prog 24 #[.int .i64 room] w fun e w' => e = .returned (.pointer (some ⟨w.heap.size, 0, none⟩)) ∧ RefAt (fun k => k = w.heap.size) w' w.heap.size (new room) ∧ Below w.heap.size w w' := by
  by_cases c1 : room < 0
  · have b1 : decide (room < 0) = true := decide_eq_true c1
    have HN := Aside0.mk (new_ref room 0 (by omega) w w (Below.refl _ _) rfl)
    clear c1
    go_enter Try.func24, Try.ntmps24
    go_wp2
    go_ret
    exact ⟨rfl, HN.out.at, below_alloc (Below.refl _ _) _⟩
  · have b1 : decide (room < 0) = false := decide_eq_false c1
    by_cases c2 : 1048576 < room
    · have b2 : decide (1048576 < room) = true := decide_eq_true c2
      have HN := Aside0.mk (new_ref room 1048576 (by omega) w w (Below.refl _ _) rfl)
      clear c1 c2
      go_enter Try.func24, Try.ntmps24
      go_wp2
      go_ret
      exact ⟨rfl, HN.out.at, below_alloc (Below.refl _ _) _⟩
    · have b2 : decide (1048576 < room) = false := decide_eq_false c2
      have HN := Aside0.mk (new_ref room room (by omega) w w (Below.refl _ _) rfl)
      clear c1 c2
      go_enter Try.func24, Try.ntmps24
      go_wp2
      go_ret
      exact ⟨rfl, HN.out.at, below_alloc (Below.refl _ _) _⟩
end
end Go.Proofs.Ytoedkemjidgbeaa.Dk
/- The disk's plain device and the reference's: the same files, the reference's in order. Plain Lean. -/
namespace Go.Proofs.Ytoedkemjidgbeaa.Dk
open Go Go.RowKit Go.Proofs.YtoedkemjidgbeaaW.PrintWords Go.Proofs.YtoedkemjidgbeaaPw
set_option linter.unusedVariables false
set_option linter.unusedSimpArgs false
/-! The order. -/
theorem ltN_iff {a b : ByteArray} : ltN a b = true ↔ a.data.toList < b.data.toList := by
  unfold ltN
  rw [Go.Proofs.bytesLess_eq, ba_toList, ba_toList]
  simp only [Bool.not_eq_true', Bool.or_eq_false_iff, decide_eq_false_iff_not, beq_eq_false_iff_ne]
  constructor
  · rintro ⟨h1, h2⟩
    rcases List.le_total a.data.toList b.data.toList with h | h
    · exact Classical.byContradiction fun h3 => h2 (List.le_antisymm (List.not_lt.1 h3) h)
    · exact Classical.byContradiction fun h3 => h2 (List.le_antisymm (List.not_lt.1 h3) (List.not_lt.1 h1))
  · intro h
    exact ⟨fun h2 => List.lt_irrefl _ (List.lt_trans h h2), fun e => by rw [e] at h; exact List.lt_irrefl _ h⟩
theorem ltN_trans {a b c : ByteArray} (h1 : ltN a b = true) (h2 : ltN b c = true) : ltN a c = true := ltN_iff.2 (List.lt_trans (ltN_iff.1 h1) (ltN_iff.1 h2))
theorem ltN_total {a b : ByteArray} (h : ¬ ltN a b = true) (hne : ¬ b = a) : ltN b a = true := by
  rw [ltN_iff] at h ⊢
  refine Classical.byContradiction fun h3 => hne ?_
  exact ba_inj (by rw [ba_toList, ba_toList]; exact List.le_antisymm (List.not_lt.1 h) (List.not_lt.1 h3))
/-! Putting. -/
theorem delF_id {l : List Fl} {s : ByteArray} (h : ∀ f ∈ l, f.name ≠ s) : delF l s = l := by
  unfold delF
  exact List.filter_eq_self.2 (fun f hf => decide_eq_true (h f hf))
theorem putF_perm {l : List Fl} (ho : Once l) (f : Fl) : (putF l f).Perm (f :: delF l f.name) := by
  induction l with
  | nil => exact List.Perm.refl _
  | cons x r ih =>
    unfold Once at ho
    rw [List.map_cons, List.nodup_cons] at ho
    unfold putF
    by_cases e : x.name = f.name
    · rw [if_pos e]
      have h2 : delF (x :: r) f.name = r := by
        unfold delF
        rw [List.filter_cons, if_neg (by simp [e])]
        exact delF_id (fun y hy hn => ho.1 (by rw [e, ← hn]; exact List.mem_map.2 ⟨y, hy, rfl⟩))
      rw [h2]
    · rw [if_neg e]
      have h2 : delF (x :: r) f.name = x :: delF r f.name := by
        unfold delF
        rw [List.filter_cons, if_pos (by simp [e])]
      rw [h2]
      exact ((ih ho.2).cons x).trans (List.Perm.swap _ _ _)
theorem putGo_true (l : List Fl) (f : Fl) : putGo f true l = delF l f.name := by
  induction l with
  | nil => rfl
  | cons x r ih =>
    unfold delF at ih ⊢
    rw [putGo, List.filter_cons]
    by_cases e : x.name = f.name
    · rw [if_pos e, if_neg (by simp [e]), ih]
    · rw [if_neg e, if_neg (by simp), if_pos (by simp [e]), ih]
theorem putS_perm (l : List Fl) (f : Fl) : (putS l f).Perm (f :: delF l f.name) := by
  unfold putS
  induction l with
  | nil => exact List.Perm.refl _
  | cons x r ih =>
    rw [putGo]
    by_cases e : x.name = f.name
    · rw [if_pos e]
      have h2 : delF (x :: r) f.name = delF r f.name := by unfold delF; rw [List.filter_cons, if_neg (by simp [e])]
      rw [h2]
      exact ih
    · rw [if_neg e]
      have h2 : delF (x :: r) f.name = x :: delF r f.name := by unfold delF; rw [List.filter_cons, if_pos (by simp [e])]
      rw [h2]
      by_cases c : false = false ∧ ltN f.name x.name = true
      · rw [if_pos c, putGo_true]
      · rw [if_neg c]
        exact (ih.cons x).trans (List.Perm.swap _ _ _)
abbrev Rising (l : List Fl) : Prop := l.Pairwise fun a b => ltN a.name b.name = true
theorem delF_rising {l : List Fl} (h : Rising l) (s : ByteArray) : Rising (delF l s) := h.sublist List.filter_sublist
theorem putS_rising {l : List Fl} (h : Rising l) (f : Fl) : Rising (putS l f) := by
  unfold putS
  induction l with
  | nil => exact List.pairwise_singleton _ _
  | cons x r ih =>
    have h := List.pairwise_cons.1 h
    rw [putGo]
    by_cases e : x.name = f.name
    · rw [if_pos e]
      exact ih h.2
    · rw [if_neg e]
      by_cases c : false = false ∧ ltN f.name x.name = true
      · rw [if_pos c, putGo_true]
        refine List.pairwise_cons.2 ⟨fun y hy => ?_, List.pairwise_cons.2 ⟨fun y hy => h.1 y ((delF_mem _ _ _).1 hy).1, delF_rising h.2 _⟩⟩
        rcases List.mem_cons.1 hy with rfl | hy
        · exact c.2
        · exact ltN_trans c.2 (h.1 y ((delF_mem _ _ _).1 hy).1)
      · rw [if_neg c]
        refine List.pairwise_cons.2 ⟨fun y hy => ?_, ih h.2⟩
        rcases List.mem_cons.1 ((putS_perm r f).mem_iff.1 hy) with rfl | hy
        · exact ltN_total (fun h => c ⟨rfl, h⟩) e
        · exact h.1 y ((delF_mem _ _ _).1 hy).1
/-! Same files. -/
theorem delF_perm {l l' : List Fl} (h : l.Perm l') (s : ByteArray) : (delF l s).Perm (delF l' s) := h.filter _
theorem once_perm {l l' : List Fl} (h : l.Perm l') (ho : Once l) : Once l' := (h.map Fl.name).nodup_iff.1 ho
theorem findF_perm {l l' : List Fl} (h : l.Perm l') (ho : Once l) (s : ByteArray) : findF l' s = findF l s := by
  have ho' := once_perm h ho
  cases e : findF l s with
  | some f =>
    obtain ⟨hm, rfl⟩ := findF_some e
    exact findF_of ho' (h.mem_iff.1 hm)
  | none =>
    cases e2 : findF l' s with
    | none => rfl
    | some f =>
      obtain ⟨hm, hn⟩ := findF_some e2
      exact absurd hn (findF_none e f (h.mem_iff.2 hm))
theorem sizes_perm {l l' : List Fl} (h : l.Perm l') : sizes l = sizes l' := by
  induction h with
  | nil => rfl
  | cons x _ ih => rw [sizes_cons, sizes_cons, ih]
  | swap x y l => rw [sizes_cons, sizes_cons, sizes_cons, sizes_cons]; omega
  | trans _ _ ih1 ih2 => rw [ih1, ih2]
/-- The reference's device m stands for the plain device d. -/
structure Tw (d m : DS) : Prop where
  perm : d.files.Perm m.files
  rise : Rising m.files
  once : Once d.files
  safe : SafeL d.files
  cnt : (d.files.length : Int) ≤ d.acts
  rest : m = { d with files := m.files }
namespace Tw
variable {d m : DS} {k : Int}
theorem room (t : Tw d m) : m.room = d.room := by rw [t.rest]
theorem down (t : Tw d m) : m.down = d.down := by rw [t.rest]
theorem acts (t : Tw d m) : m.acts = d.acts := by rw [t.rest]
theorem fuse (t : Tw d m) : m.fuse = d.fuse := by rw [t.rest]
theorem keep (t : Tw d m) : m.keep = d.keep := by rw [t.rest]
theorem torn (t : Tw d m) : m.torn = d.torn := by rw [t.rest]
theorem find (t : Tw d m) (s : ByteArray) : findF m.files s = findF d.files s := findF_perm t.perm t.once s
theorem fileOr (t : Tw d m) (s : ByteArray) : m.fileOr s = d.fileOr s := by unfold DS.fileOr; rw [t.find]
theorem free (t : Tw d m) : m.free = d.free := by unfold DS.free; rw [t.room, sizes_perm t.perm]
theorem ready (t : Tw d m) (s : ByteArray) : m.ready s = d.ready s := by unfold DS.ready; rw [t.down]
theorem there (t : Tw d m) (s : ByteArray) : m.there s = d.there s := by unfold DS.there; rw [t.ready, t.find]
theorem goes (t : Tw d m) : m.goes = d.goes := by unfold DS.goes; rw [t.fuse]
theorem act (t : Tw d m) : Tw d.act m.act := by
  refine ⟨t.perm, t.rise, t.once, t.safe, Int.le_trans t.cnt (by show d.acts ≤ d.acts + 1; omega), ?_⟩
  unfold DS.act
  rw [t.acts, t.fuse]
  simp only
  rw [t.rest]
theorem put (t : Tw d m) {f : Fl} (hs : f.safe ≤ f.b.length) (hc : (d.files.length : Int) < d.acts) : Tw (d.put f) (m.rput f) := by
  have hp : (putF d.files f).Perm (putS m.files f) := (putF_perm t.once f).trans (((delF_perm t.perm _).cons f).trans (putS_perm m.files f).symm)
  refine ⟨hp, putS_rising t.rise f, putF_once t.once f, fun g hg => ?_, ?_, ?_⟩
  · rcases (putF_mem t.once f g).1 hg with rfl | h
    · exact hs
    · exact t.safe g h.1
  · have h1 := (putF_perm t.once f).length_eq
    have h2 : (delF d.files f.name).length ≤ d.files.length := List.length_filter_le _ _
    simp only [List.length_cons] at h1
    show ((putF d.files f).length : Int) ≤ d.acts
    omega
  · unfold DS.rput DS.put
    rw [t.rest]
theorem drop (t : Tw d m) (s : ByteArray) : Tw (d.drop s) (m.drop s) := by
  refine ⟨delF_perm t.perm s, delF_rising t.rise s, delF_once t.once s, fun g hg => t.safe g ((delF_mem _ _ _).1 hg).1, ?_, ?_⟩
  · have h2 : (delF d.files s).length ≤ d.files.length := List.length_filter_le _ _
    have := t.cnt
    show ((delF d.files s).length : Int) ≤ d.acts
    omega
  · unfold DS.drop
    rw [t.rest]
theorem off (t : Tw d m) (keep : Int) (torn : Bool) : Tw (d.off keep torn) (m.off keep torn) := by
  unfold DS.off
  rw [t.down]
  split
  · exact t
  · refine ⟨t.perm.map _, ?_, lose_once t.once _ _, fun g hg => ?_, ?_, ?_⟩
    · exact List.Pairwise.map _ (fun a b h => h) t.rise
    · obtain ⟨f, _, rfl⟩ := List.mem_map.1 hg
      exact Nat.le_refl _
    · show ((d.files.map _).length : Int) ≤ d.acts
      rw [List.length_map]
      exact t.cnt
    · rw [t.rest]
theorem ends (t : Tw d m) : Tw d.ends m.ends := by
  unfold DS.ends
  rw [t.keep, t.torn]
  exact t.off _ _
theorem endIf (t : Tw d m) (go : Bool) : Tw (endIf go d) (endIf go m) := by
  unfold Dk.endIf
  cases go
  · exact t
  · exact t.ends
theorem on (t : Tw d m) : Tw d.on m.on := by
  refine ⟨t.perm, t.rise, t.once, t.safe, t.cnt, ?_⟩
  unfold DS.on
  rw [t.rest]
theorem arm (t : Tw d m) (n keep : Int) (torn : Bool) : Tw (d.arm n keep torn) (m.arm n keep torn) := by
  refine ⟨t.perm, t.rise, t.once, t.safe, t.cnt, ?_⟩
  unfold DS.arm
  rw [t.rest]
theorem new (room : Int) : Tw (Dk.new room) (Dk.new room) := ⟨List.Perm.refl _, List.Pairwise.nil, List.nodup_nil, (fun f hf => by cases hf), Int.le_refl _, rfl⟩
theorem fit (t : Tw d m) (h : d.Fit) : m.Fit := ⟨by rw [t.room]; exact h.room, by rw [t.room, ← sizes_perm t.perm]; exact h.fits, fun f hf => h.bytes f (t.perm.mem_iff.2 hf)⟩
theorem rg (t : Tw d m) (h : d.Up k) (hk : k ≤ 4096) : m.RG := by
  refine ⟨t.fit h.toFit, fun f hf => t.safe f (t.perm.mem_iff.2 hf), ?_⟩
  have h1 := t.perm.length_eq
  have h2 := t.cnt
  have h3 := h.acts.2
  omega
theorem ok (t : Tw d m) (h : d.Up k) (hk : k ≤ 4096) : m.Ok := ⟨t.fit h.toFit, by rw [t.acts]; exact ⟨h.acts.1, by have := h.acts.2; omega⟩, by rw [t.fuse]; exact h.fuse⟩
theorem names (t : Tw d m) : m.files.map Fl.name = d.names := by
  have hp : (nmL d.files).Perm (nmL m.files) := t.perm.map _
  have hs : (nmL m.files).mergeSort leB = nmL m.files := by
    refine List.mergeSort_of_pairwise ?_
    unfold nmL
    refine List.Pairwise.map _ (fun a b h => ?_) t.rise
    simp only [leB, decide_eq_true_eq]
    exact List.le_of_lt (ltN_iff.1 h)
  unfold DS.names
  rw [mergeSort_of_perm hp, hs]
  unfold nmL
  rw [List.map_map]
  exact List.map_congr_left fun f _ => rfl
end Tw
end Go.Proofs.Ytoedkemjidgbeaa.Dk
/- The reference's device among other things in memory; a device and its twin. -/
namespace Go.Proofs.Ytoedkemjidgbeaa.Dk
open Go Go.RowKit Go.Proofs.YtoedkemjidgbeaaW.PrintWords Go.Proofs.YtoedkemjidgbeaaW.PrintLast Go.Proofs.YtoedkemjidgbeaaW.PrintMore Go.Proofs.YtoedkemjidgbeaaMy Go.Proofs.Ytoedkemjidgbeaa Go.Proofs.YtoedkemjidgbeaaPw Go.Proofs.Ytoedkemjidgbeaa.PAll
set_option linter.unusedVariables false
set_option linter.unusedSimpArgs false
/-! What the twin does is what the device does. -/
namespace Tw
variable {d m : DS} {k : Int}
theorem orSafe (t : Tw d m) (s : ByteArray) : (d.fileOr s).safe ≤ (d.fileOr s).b.length := by
  cases e : findF d.files s with
  | none => rw [fileOr_none e]; exact Nat.le_refl _
  | some f => rw [fileOr_some e]; exact t.safe f (findF_some e).1
theorem actLt (t : Tw d m) : (d.act.files.length : Int) < d.act.acts := by
  have := t.cnt
  show (d.files.length : Int) < d.acts + 1
  omega
theorem rgPut (t : Tw d m) {f : Fl} (hs : f.safe ≤ f.b.length) (hc : (d.files.length : Int) < d.acts) (hu : (d.put f).Up k) (hk : k ≤ 4096) : (m.rput f).RG := (t.put hs hc).rg hu hk
theorem append_eq (d : DS) (s : ByteArray) (x : List Int) : d.append s x = if d.ready s ≠ 0 then (d.ready s, d) else if d.free < (x.length : Int) then (6, d) else (errIf d.goes, Dk.endIf d.goes (d.act.put ⟨s, (d.fileOr s).b ++ x, (d.fileOr s).safe⟩)) := by
  have e : ({ d.fileOr s with b := (d.fileOr s).b ++ x } : Fl) = ⟨s, (d.fileOr s).b ++ x, (d.fileOr s).safe⟩ := by rw [← fileOr_name d s]; simp [fileOr_name]
  unfold DS.append errIf Dk.endIf
  rw [e]
  by_cases c1 : d.ready s ≠ 0
  · rw [if_pos c1, if_pos c1]
  · rw [if_neg c1, if_neg c1]
    by_cases c2 : (x.length : Int) > d.free
    · rw [if_pos c2, if_pos c2]
    · rw [if_neg c2, if_neg c2]
      cases d.goes <;> rfl
theorem appendUp (t : Tw d m) (u : d.Up k) (s : ByteArray) {x : List Int} (hx : ∀ y ∈ x, 0 ≤ y ∧ y ≤ 255) (hl : ¬ d.free < (x.length : Int)) : (d.act.put ⟨s, (d.fileOr s).b ++ x, (d.fileOr s).safe⟩).Up (k + 1) := by
  have e : ({ d.fileOr s with b := (d.fileOr s).b ++ x } : Fl) = ⟨s, (d.fileOr s).b ++ x, (d.fileOr s).safe⟩ := by rw [← fileOr_name d s]; simp [fileOr_name]
  have h := u.act.putF (u.toFit.act.append u.once s hx (Int.not_lt.1 hl))
  rw [← e]
  exact h
theorem appendTw (t : Tw d m) (s : ByteArray) (x : List Int) : Tw (d.act.put ⟨s, (d.fileOr s).b ++ x, (d.fileOr s).safe⟩) (m.act.rput ⟨s, (d.fileOr s).b ++ x, (d.fileOr s).safe⟩) :=
  t.act.put (by have := t.orSafe s; simp only [List.length_append]; omega) t.actLt
theorem append (t : Tw d m) (s : ByteArray) (x : List Int) : (m.rappend s x).1 = (d.append s x).1 ∧ Tw (d.append s x).2 (m.rappend s x).2 := by
  rw [append_eq]
  unfold DS.rappend
  rw [t.ready, t.free, t.goes, t.fileOr]
  split
  · exact ⟨rfl, t⟩
  · split
    · exact ⟨rfl, t⟩
    · exact ⟨rfl, (t.appendTw s x).endIf _⟩
theorem syncTw (t : Tw d m) (s : ByteArray) : Tw (d.act.put ⟨s, (d.fileOr s).b, (d.fileOr s).b.length⟩) (m.act.rput ⟨s, (d.fileOr s).b, (d.fileOr s).b.length⟩) := t.act.put (Nat.le_refl _) t.actLt
theorem sync (t : Tw d m) (s : ByteArray) : (m.rsync s).1 = (d.sync s).1 ∧ Tw (d.sync s).2 (m.rsync s).2 := by
  have e : ({ d.fileOr s with safe := (d.fileOr s).b.length } : Fl) = ⟨s, (d.fileOr s).b, (d.fileOr s).b.length⟩ := by rw [← fileOr_name d s]; simp [fileOr_name]
  unfold DS.sync DS.rsync
  rw [e, t.there, t.goes, t.fileOr]
  split
  · exact ⟨rfl, t⟩
  · split
    · exact ⟨rfl, t.act.ends⟩
    · exact ⟨rfl, t.syncTw s⟩
theorem fall {F G : DS → DS} (t : Tw d m) (h : Tw (F d.act) (G m.act)) : (m.fall G).1 = (d.fall F).1 ∧ Tw (d.fall F).2 (m.fall G).2 := by
  rw [fall_eq, fall_eq, t.goes, t.keep]
  split
  · exact ⟨rfl, h.endIf _⟩
  · exact ⟨rfl, t.act.endIf _⟩
theorem cutTw (t : Tw d m) (s : ByteArray) (n : Int) : Tw (d.act.put (cutTo (d.fileOr s) n)) (m.act.rput (cutTo (d.fileOr s) n)) := t.act.put (by unfold cutTo; exact Nat.min_le_right _ _) t.actLt
theorem cut (t : Tw d m) (s : ByteArray) (n : Int) : (m.rcut s n).1 = (d.cut s n).1 ∧ Tw (d.cut s n).2 (m.rcut s n).2 := by
  unfold DS.cut DS.rcut
  rw [t.there]
  split
  · exact ⟨rfl, t⟩
  · split
    · exact ⟨rfl, t⟩
    · refine t.fall ?_
      rw [show m.act.fileOr s = d.fileOr s from t.fileOr s]
      exact t.cutTw s n
theorem renameTw (t : Tw d m) (a b : ByteArray) : Tw ((d.act.drop a).put ⟨b, (d.fileOr a).b, (d.fileOr a).safe⟩) ((m.act.drop a).rput ⟨b, (d.fileOr a).b, (d.fileOr a).safe⟩) := by
  refine (t.act.drop a).put (t.orSafe a) ?_
  have h1 := t.actLt
  have h2 : (delF d.files a).length ≤ d.files.length := List.length_filter_le _ _
  have h3 : (d.act.files.length : Int) = (d.files.length : Int) := rfl
  show ((delF d.files a).length : Int) < d.act.acts
  omega
theorem rename (t : Tw d m) (a b : ByteArray) : (m.rrename a b).1 = (d.rename a b).1 ∧ Tw (d.rename a b).2 (m.rrename a b).2 := by
  unfold DS.rename DS.rrename
  rw [t.there]
  split
  · exact ⟨rfl, t⟩
  · split
    · exact ⟨rfl, t⟩
    · refine t.fall ?_
      rw [show m.act.fileOr a = d.fileOr a from t.fileOr a]
      exact t.renameTw a b
theorem remove (t : Tw d m) (s : ByteArray) : (m.remove s).1 = (d.remove s).1 ∧ Tw (d.remove s).2 (m.remove s).2 := by
  unfold DS.remove
  rw [t.there]
  split
  · exact ⟨rfl, t⟩
  · exact t.fall (t.act.drop s)
theorem read (t : Tw d m) (s : ByteArray) : m.read s = d.read s := by
  unfold DS.read
  rw [t.there, t.fileOr]
end Tw
/-! In memory. -/
/-- The reference's device at block g; its blocks are S's, from B on. -/
structure RDev (S : Nat → Prop) (B : Nat) (W : World) (g : Nat) (d : DS) : Prop where
  at_ : RefAt S W g d
  lo : ∀ k, S k → B ≤ k
  hi : ∀ k, S k → k < W.heap.size
section
variable {S S' S1 S2 : Nat → Prop} {B : Nat} {W W' W1 W2 w0 : World} {g g2 : Nat} {d d' m m' : DS} {k : Int} {s : ByteArray}
theorem RDev.next (h : RDev S B W g d) (hB : B ≤ W.heap.size) (hD : RefAt (Grow S W) W' g d') (hO : Only S W W') : ∃ S', RDev S' B W' g d' ∧ Step S W S' W' := by
  obtain ⟨v, hD⟩ := hD
  exact ⟨fun k => Grow S W k ∧ k < W'.heap.size, ⟨⟨v, hD.trim⟩, fun k hk => hk.1.elim (h.lo k) (fun h => Nat.le_trans hB h), fun k hk => hk.2⟩, hO, fun k hk => hk.1⟩
theorem RDev.move (h : RDev S B W g d) (hs : W.heap.size ≤ W'.heap.size) (hm : ∀ k, S k → W'.heap[k]? = W.heap[k]?) : RDev S B W' g d := by
  obtain ⟨v, hd⟩ := h.at_
  exact ⟨⟨v, hd.move (fun k hk _ => hm k hk)⟩, h.lo, fun k hk => Nat.lt_of_lt_of_le (h.hi k hk) hs⟩
theorem RDev.below (h : RDev S B W g d) (hb : Below W.heap.size W W') : RDev S B W' g d := h.move hb.size (fun k hk => hb.block k (h.hi k hk))
theorem RDev.other (h : RDev S B W g d) (ho : Only S2 W W') (hd : ∀ k, S k → ¬ S2 k) : RDev S B W' g d := h.move ho.size (fun k hk => ho.block k (h.hi k hk) (hd k hk))
/-- A device and its twin; their blocks are S's, newer than w0. -/
structure Pair (S : Nat → Prop) (w0 W : World) (g g2 : Nat) (d m : DS) (k : Int) : Prop where
  bel : Below w0.heap.size w0 W
  ex : ∃ S1 S2, Dev S1 w0.heap.size W g d ∧ RDev S2 w0.heap.size W g2 m ∧ (∀ k, S1 k → ¬ S2 k) ∧ (∀ k, S k ↔ S1 k ∨ S2 k)
  tw : Tw d m
  up : d.Up k
theorem Pair.hi (p : Pair S w0 W g g2 d m k) : ∀ j, S j → j < W.heap.size := by
  obtain ⟨S1, S2, h1, h2, _, he⟩ := p.ex
  intro j hj
  exact ((he j).1 hj).elim (h1.hi j) (h2.hi j)
theorem Pair.lo (p : Pair S w0 W g g2 d m k) : ∀ j, S j → w0.heap.size ≤ j := by
  obtain ⟨S1, S2, h1, h2, _, he⟩ := p.ex
  intro j hj
  exact ((he j).1 hj).elim (h1.lo j) (h2.lo j)
theorem Pair.below (p : Pair S w0 W g g2 d m k) (hb : Below W.heap.size W W') : Pair S w0 W' g g2 d m k := by
  obtain ⟨S1, S2, h1, h2, hd, he⟩ := p.ex
  exact ⟨p.bel.trans (hb.mono p.bel.size), ⟨S1, S2, h1.below hb, h2.below hb, hd, he⟩, p.tw, p.up⟩
theorem Pair.other (p : Pair S w0 W g g2 d m k) (ho : Only S' W W') (hd : ∀ k, S k → ¬ S' k) (hb : Below w0.heap.size w0 W') : Pair S w0 W' g g2 d m k := by
  obtain ⟨S1, S2, h1, h2, hdd, he⟩ := p.ex
  exact ⟨hb, ⟨S1, S2, h1.other ho (fun j hj => hd j ((he j).2 (.inl hj))), h2.other ho (fun j hj => hd j ((he j).2 (.inr hj))), hdd, he⟩, p.tw, p.up⟩
theorem Pair.more (p : Pair S w0 W g g2 d m k) {j : Int} (hj : k ≤ j) : Pair S w0 W g g2 d m j := ⟨p.bel, p.ex, p.tw, p.up.mono hj⟩
/-- Both have gone on. -/
theorem Pair.join {k' : Int} (hbel : Below w0.heap.size w0 W) (h1 : Dev S1 w0.heap.size W g d) (h2 : RDev S2 w0.heap.size W g2 m) (hd : ∀ k, S1 k → ¬ S2 k) (he : ∀ k, S k ↔ S1 k ∨ S2 k) {S1' S2' : Nat → Prop} (st1 : Step S1 W S1' W1) (D1 : Dev S1' w0.heap.size W1 g d') (st2 : Step S2 W1 S2' W2) (D2 : RDev S2' w0.heap.size W2 g2 m') (t : Tw d' m') (u : d'.Up k') :
    ∃ S', Pair S' w0 W2 g g2 d' m' k' ∧ Step S W S' W2 := by
  have b1 : Below w0.heap.size w0 W1 := hbel.trans (st1.below h1.lo hbel.size)
  have b2 : Below w0.heap.size w0 W2 := b1.trans (st2.below h2.lo b1.size)
  have hs1 : W.heap.size ≤ W1.heap.size := st1.only.size
  have hdis : ∀ k, S1' k → ¬ S2 k := fun k hk h => by
    rcases st1.sub k hk with h3 | h3
    · exact hd k h3 h
    · have := h2.hi k h; omega
  have hdis2 : ∀ k, S1' k → ¬ S2' k := fun k hk h => by
    rcases st2.sub k h with h3 | h3
    · exact hdis k hk h3
    · have := D1.hi k hk; omega
  refine ⟨fun k => S1' k ∨ S2' k, ⟨b2, ⟨S1', S2', D1.other st2.only hdis, D2, hdis2, fun _ => Iff.rfl⟩, t, u⟩, ?_, ?_⟩
  · have o1 : Only S W W1 := st1.only.mono (fun k h => (he k).2 (.inl h))
    exact o1.trans (st2.only.mono (fun k h => (he k).2 (.inr h)))
  · rintro k (h | h)
    · rcases st1.sub k h with h3 | h3
      · exact .inl ((he k).2 (.inl h3))
      · exact .inr h3
    · rcases st2.sub k h with h3 | h3
      · exact .inl ((he k).2 (.inr h3))
      · exact .inr (Nat.le_trans hs1 h3)
theorem Step.disj (st : Step S W S' W') (hd : ∀ k, S1 k → ¬ S k) (hi : ∀ k, S1 k → k < W.heap.size) : ∀ k, S1 k → ¬ S' k := fun k hk h => by
  rcases st.sub k h with h3 | h3
  · exact hd k hk h3
  · have := hi k hk; omega
end
end Go.Proofs.Ytoedkemjidgbeaa.Dk
/- One call on a device and on its twin. -/
namespace Go.Proofs.Ytoedkemjidgbeaa.Dk
open Go Go.RowKit Go.Proofs.YtoedkemjidgbeaaW.PrintWords Go.Proofs.YtoedkemjidgbeaaW.PrintLast Go.Proofs.YtoedkemjidgbeaaW.PrintMore Go.Proofs.YtoedkemjidgbeaaMy Go.Proofs.Ytoedkemjidgbeaa Go.Proofs.YtoedkemjidgbeaaPw Go.Proofs.Ytoedkemjidgbeaa.PAll
set_option linter.unusedVariables false
set_option linter.unusedSimpArgs false
def DS.play (d : DS) (x : S50) : DS :=
  if x.f0 = 0 then (d.append x.f1 x.f6).2 else if x.f0 = 1 then d else if x.f0 = 2 then (d.sync x.f1).2 else if x.f0 = 3 then (d.cut x.f1 x.f3).2 else
  if x.f0 = 4 then (d.rename x.f1 x.f2).2 else if x.f0 = 5 then (d.remove x.f1).2 else if x.f0 = 6 then d.off x.f3 x.f5 else if x.f0 = 7 then d.on else if x.f0 = 8 then d.arm x.f3 x.f4 x.f5 else d
def DS.rplay (d : DS) (x : S50) : DS :=
  if x.f0 = 0 then (d.rappend x.f1 x.f6).2 else if x.f0 = 1 then d else if x.f0 = 2 then (d.rsync x.f1).2 else if x.f0 = 3 then (d.rcut x.f1 x.f3).2 else
  if x.f0 = 4 then (d.rrename x.f1 x.f2).2 else if x.f0 = 5 then (d.remove x.f1).2 else if x.f0 = 6 then d.off x.f3 x.f5 else if x.f0 = 7 then d.on else if x.f0 = 8 then d.arm x.f3 x.f4 x.f5 else d
section
variable {S S' S1 S2 : Nat → Prop} {B : Nat} {w W W' W1 W2 w0 : World} {g g2 : Nat} {d d' m m' : DS} {k : Int} {s : ByteArray}
theorem Step.after (st : Step S W S' W') (hb : Below w.heap.size w W) : Step S w S' W' := ⟨((Only.refl S w).below hb).trans st.only, fun j hj => (st.sub j hj).elim .inl (fun h => .inr (Nat.le_trans hb.size h))⟩
theorem Step.behind (st : Step S W S' W') (hb : Below W'.heap.size W' W2) : Step S W S' W2 := ⟨st.only.below hb, st.sub⟩
theorem Step.same (hb : Below W.heap.size W W') : Step S W S W' := ⟨(Only.refl S W).below hb, fun _ h => .inl h⟩
theorem Step.trans {S3 : Nat → Prop} (st : Step S W S' W') (st2 : Step S' W' S3 W2) : Step S W S3 W2 := by
  refine ⟨st.only.thenN st2.only (fun j hj => st.sub j hj), fun j hj => ?_⟩
  rcases st2.sub j hj with h | h
  · exact st.sub j h
  · exact .inr (Nat.le_trans st.only.size h)
/-- A call on the device, then one on the twin. -/
theorem Pair.two {k' : Int} {f1 f2 : FuncId} {a1 a2 : Array Value} {e1 e2 : Ending} (p : Pair S w0 W g g2 d m k)
    (c1 : ∀ S1, (∀ j, S1 j → S j) → Dev S1 w0.heap.size W g d → Calls Try.prog f1 a1 W fun e W' => e = e1 ∧ ∃ S1', Dev S1' w0.heap.size W' g d' ∧ Step S1 W S1' W')
    (c2 : ∀ S2 W2, w0.heap.size ≤ W2.heap.size → RDev S2 w0.heap.size W2 g2 m → Calls Try.prog f2 a2 W2 fun e W' => e = e2 ∧ ∃ S2', RDev S2' w0.heap.size W' g2 m' ∧ Step S2 W2 S2' W')
    (t : Tw d' m') (u : d'.Up k') :
    Calls Try.prog f1 a1 W fun e W1 => e = e1 ∧ Below w0.heap.size w0 W1 ∧ Only S W W1 ∧ ∀ W2, Below W1.heap.size W1 W2 → Calls Try.prog f2 a2 W2 fun e W3 => e = e2 ∧ ∃ S', Pair S' w0 W3 g g2 d' m' k' ∧ Step S W S' W3 := by
  obtain ⟨S1, S2, h1, h2, hd, he⟩ := p.ex
  refine (c1 S1 (fun j hj => (he j).2 (.inl hj)) h1).mono ?_
  rintro e W1 ⟨rfl, S1', D1, st1⟩
  have b1 : Below w0.heap.size w0 W1 := p.bel.trans (st1.below h1.lo p.bel.size)
  refine ⟨rfl, b1, st1.only.mono (fun j hj => (he j).2 (.inl hj)), fun W2 hb => ?_⟩
  have h22 : RDev S2 w0.heap.size W2 g2 m := (h2.other st1.only (fun j hj h => hd j h hj)).below hb
  refine (c2 S2 W2 (Nat.le_trans b1.size hb.size) h22).mono ?_
  rintro e W3 ⟨rfl, S2', D2, st2⟩
  exact ⟨rfl, Pair.join p.bel h1 h2 hd he (st1.behind hb) (D1.below hb) st2 D2 t u⟩
/-! The twin's calls. -/
theorem RDev.app {x : List Int} {sb : ByteArray} (h : RDev S B W g m) (hB : B ≤ W.heap.size) (t : Tw d m) (u : d.Up k) (hk : k < 4096) (hsb : sb = strOfNums x) (hx : ∀ y ∈ x, 0 ≤ y ∧ y ≤ 255) (hxl : x.length ≤ 4294967296) :
    Calls Try.prog 43 #[.pointer (some ⟨g, 0, none⟩), .string s, .string sb] W fun e W' => e = .returned (.int .i64 (d.append s x).1) ∧ ∃ S', RDev S' B W' g (m.rappend s x).2 ∧ Step S W S' W' := by
  obtain ⟨v, hv⟩ := h.at_
  refine (RAppend_Q hv (t.ok u (Int.le_of_lt hk)) (t.rg u (Int.le_of_lt hk)) s hsb hxl (fun _ hf => ?_)).mono ?_
  · rw [t.free] at hf
    rw [t.fileOr]
    exact (t.appendTw s x).rg (t.appendUp u s hx hf) hk
  · rintro e W' ⟨rfl, hr, ho⟩
    refine ⟨by rw [(t.append s x).1], h.next hB hr ho⟩
theorem RDev.sync (h : RDev S B W g m) (hB : B ≤ W.heap.size) (t : Tw d m) (u : d.Up k) (hk : k < 4096) :
    Calls Try.prog 44 #[.pointer (some ⟨g, 0, none⟩), .string s] W fun e W' => e = .returned (.int .i64 (d.sync s).1) ∧ ∃ S', RDev S' B W' g (m.rsync s).2 ∧ Step S W S' W' := by
  obtain ⟨v, hv⟩ := h.at_
  refine (RSync_Q hv (t.ok u (Int.le_of_lt hk)) (t.rg u (Int.le_of_lt hk)) s).mono ?_
  rintro e W' ⟨rfl, hr, ho⟩
  exact ⟨by rw [(t.sync s).1], h.next hB hr ho⟩
theorem cutUp (t : Tw d m) (u : d.Up k) (ht : d.there s = 0) (n : Int) : (d.act.put (cutTo (d.fileOr s) n)).Up (k + 1) := by
  obtain ⟨f, hf⟩ := (there_ready ht).2
  rw [fileOr_some hf]
  exact u.act.putF (u.toFit.act.less u.once (f := f) (findF_some hf).1 rfl (fun x hx => List.mem_of_mem_take hx) (by unfold cutTo; rw [List.length_take]; omega))
theorem RDev.cut {n : Int} (h : RDev S B W g m) (hB : B ≤ W.heap.size) (t : Tw d m) (u : d.Up k) (hk : k < 4096) :
    Calls Try.prog 45 #[.pointer (some ⟨g, 0, none⟩), .string s, .int .i64 n] W fun e W' => e = .returned (.int .i64 (d.cut s n).1) ∧ ∃ S', RDev S' B W' g (m.rcut s n).2 ∧ Step S W S' W' := by
  obtain ⟨v, hv⟩ := h.at_
  refine (RCut_Q hv (t.ok u (Int.le_of_lt hk)) (t.rg u (Int.le_of_lt hk)) s n (fun ht _ => ?_)).mono ?_
  · rw [t.there] at ht
    rw [show m.act.fileOr s = d.fileOr s from t.fileOr s]
    exact (t.cutTw s n).rg (cutUp t u ht n) hk
  · rintro e W' ⟨rfl, hr, ho⟩
    exact ⟨by rw [(t.cut s n).1], h.next hB hr ho⟩
theorem renUp (t : Tw d m) (u : d.Up k) {a : ByteArray} (ht : d.there a = 0) (b : ByteArray) : ((d.act.drop a).put ⟨b, (d.fileOr a).b, (d.fileOr a).safe⟩).Up (k + 1) := by
  obtain ⟨f, hf⟩ := (there_ready ht).2
  rw [fileOr_some hf]
  obtain ⟨hm, rfl⟩ := findF_some hf
  exact (u.act.dropF f.name).putF (u.toFit.act.move u.once hm b)
theorem RDev.rename {b : ByteArray} (h : RDev S B W g m) (hB : B ≤ W.heap.size) (t : Tw d m) (u : d.Up k) (hk : k < 4096) :
    Calls Try.prog 46 #[.pointer (some ⟨g, 0, none⟩), .string s, .string b] W fun e W' => e = .returned (.int .i64 (d.rename s b).1) ∧ ∃ S', RDev S' B W' g (m.rrename s b).2 ∧ Step S W S' W' := by
  obtain ⟨v, hv⟩ := h.at_
  refine (RRename_Q hv (t.ok u (Int.le_of_lt hk)) (t.rg u (Int.le_of_lt hk)) s b (fun ht _ => ?_)).mono ?_
  · rw [t.there] at ht
    rw [show m.act.fileOr s = d.fileOr s from t.fileOr s]
    exact (t.renameTw s b).rg (renUp t u ht b) hk
  · rintro e W' ⟨rfl, hr, ho⟩
    exact ⟨by rw [(t.rename s b).1], h.next hB hr ho⟩
theorem RDev.remove (h : RDev S B W g m) (hB : B ≤ W.heap.size) (t : Tw d m) (u : d.Up k) (hk : k < 4096) :
    Calls Try.prog 47 #[.pointer (some ⟨g, 0, none⟩), .string s] W fun e W' => e = .returned (.int .i64 (d.remove s).1) ∧ ∃ S', RDev S' B W' g (m.remove s).2 ∧ Step S W S' W' := by
  obtain ⟨v, hv⟩ := h.at_
  refine (RRemove_Q hv (t.ok u (Int.le_of_lt hk)) (t.rg u (Int.le_of_lt hk)) s ((t.act.drop s).rg (u.act.dropF s) hk)).mono ?_
  rintro e W' ⟨rfl, hr, ho⟩
  exact ⟨by rw [(t.remove s).1], h.next hB hr ho⟩
theorem RDev.lose {keep : Int} {torn : Bool} (h : RDev S B W g m) (hB : B ≤ W.heap.size) (t : Tw d m) (u : d.Up k) (hk : k < 4096) :
    Calls Try.prog 48 #[.pointer (some ⟨g, 0, none⟩), .int .i64 keep, .bool torn] W fun e W' => e = .returned (.tuple #[]) ∧ ∃ S', RDev S' B W' g (m.off keep torn) ∧ Step S W S' W' := by
  obtain ⟨v, hv⟩ := h.at_
  have rg := t.rg u (Int.le_of_lt hk)
  refine (RLose_Q hv rg.fit rg.safe keep torn rg.len).mono ?_
  rintro e W' ⟨rfl, hr, ho⟩
  exact ⟨rfl, h.next hB hr ho⟩
theorem RDev.arm {n keep : Int} {torn : Bool} (h : RDev S B W g m) (hB : B ≤ W.heap.size) :
    Calls Try.prog 49 #[.pointer (some ⟨g, 0, none⟩), .int .i64 n, .int .i64 keep, .bool torn] W fun e W' => e = .returned (.tuple #[]) ∧ ∃ S', RDev S' B W' g (m.arm n keep torn) ∧ Step S W S' W' := by
  obtain ⟨v, hv⟩ := h.at_
  refine (RArm_Q hv n keep torn).mono ?_
  rintro e W' ⟨rfl, hr, ho⟩
  exact ⟨rfl, h.next hB hr.at.grow ho⟩
/-! The device's calls, told alike. -/
theorem dApp {A : Option Addr} {n c : Nat} {x : List Int} (h : Dev S B W g d) (hB : B ≤ W.heap.size) (u : d.Up k) (hk : k < 4096) (hr : Row S W A n x) (hn : n ≤ 4294967296) (hx : ∀ y ∈ x, 0 ≤ y ∧ y ≤ 255) :
    Calls Try.prog 12 #[.pointer (some ⟨g, 0, none⟩), .string s, .slice A n c] W fun e W' => e = .returned (.int .i64 (d.append s x).1) ∧ ∃ S', Dev S' B W' g (d.append s x).2 ∧ Step S W S' W' := by
  refine (Append_D h hB u (by omega) hr hn hx (r := (d.append s x).1) (d' := (d.append s x).2) rfl).mono ?_
  rintro e W' ⟨S', rfl, h1, h2⟩
  exact ⟨rfl, S', h1, h2⟩
theorem dSync (h : Dev S B W g d) (hB : B ≤ W.heap.size) (u : d.Up k) (hk : k < 4096) :
    Calls Try.prog 15 #[.pointer (some ⟨g, 0, none⟩), .string s] W fun e W' => e = .returned (.int .i64 (d.sync s).1) ∧ ∃ S', Dev S' B W' g (d.sync s).2 ∧ Step S W S' W' := by
  refine (Sync_D h hB u (by omega) (r := (d.sync s).1) (d' := (d.sync s).2) rfl).mono ?_
  rintro e W' ⟨S', rfl, h1, h2⟩
  exact ⟨rfl, S', h1, h2⟩
theorem dCut {n : Int} (h : Dev S B W g d) (hB : B ≤ W.heap.size) (u : d.Up k) (hk : k < 4096) :
    Calls Try.prog 19 #[.pointer (some ⟨g, 0, none⟩), .string s, .int .i64 n] W fun e W' => e = .returned (.int .i64 (d.cut s n).1) ∧ ∃ S', Dev S' B W' g (d.cut s n).2 ∧ Step S W S' W' := by
  refine (Cut_D h hB u (by omega) (r := (d.cut s n).1) (d' := (d.cut s n).2) rfl).mono ?_
  rintro e W' ⟨S', rfl, h1, h2⟩
  exact ⟨rfl, S', h1, h2⟩
theorem dRename {b : ByteArray} (h : Dev S B W g d) (hB : B ≤ W.heap.size) (u : d.Up k) (hk : k < 4096) :
    Calls Try.prog 18 #[.pointer (some ⟨g, 0, none⟩), .string s, .string b] W fun e W' => e = .returned (.int .i64 (d.rename s b).1) ∧ ∃ S', Dev S' B W' g (d.rename s b).2 ∧ Step S W S' W' := by
  refine (Rename_D h hB u (by omega) (r := (d.rename s b).1) (d' := (d.rename s b).2) rfl).mono ?_
  rintro e W' ⟨S', rfl, h1, h2⟩
  exact ⟨rfl, S', h1, h2⟩
theorem dRemove (h : Dev S B W g d) (hB : B ≤ W.heap.size) (u : d.Up k) (hk : k < 4096) :
    Calls Try.prog 20 #[.pointer (some ⟨g, 0, none⟩), .string s] W fun e W' => e = .returned (.int .i64 (d.remove s).1) ∧ ∃ S', Dev S' B W' g (d.remove s).2 ∧ Step S W S' W' := by
  refine (Remove_D h hB u (by omega) (r := (d.remove s).1) (d' := (d.remove s).2) rfl).mono ?_
  rintro e W' ⟨S', rfl, h1, h2⟩
  exact ⟨rfl, S', h1, h2⟩
theorem dOff {keep : Int} {torn : Bool} (h : Dev S B W g d) (hB : B ≤ W.heap.size) (u : d.Up k) :
    Calls Try.prog 16 #[.pointer (some ⟨g, 0, none⟩), .int .i64 keep, .bool torn] W fun e W' => e = .returned (.tuple #[]) ∧ ∃ S', Dev S' B W' g (d.off keep torn) ∧ Step S W S' W' := by
  refine (Off_D h hB u (d' := d.off keep torn) rfl).mono ?_
  rintro e W' ⟨S', rfl, h1, h2⟩
  exact ⟨rfl, S', h1, h2⟩
theorem dArm {n keep : Int} {torn : Bool} (h : Dev S B W g d) (hB : B ≤ W.heap.size) :
    Calls Try.prog 14 #[.pointer (some ⟨g, 0, none⟩), .int .i64 n, .int .i64 keep, .bool torn] W fun e W' => e = .returned (.tuple #[]) ∧ ∃ S', Dev S' B W' g (d.arm n keep torn) ∧ Step S W S' W' := by
  refine (Arm_D h hB).mono ?_
  rintro e W' ⟨S', rfl, h1, h2⟩
  exact ⟨rfl, S', h1, h2⟩
/-! Both, for each kind of call. -/
/-- What stands behind the first of the two calls. -/
abbrev After (S : Nat → Prop) (w0 W : World) (g g2 : Nat) (e1 e2 : Ending) (f2 : FuncId) (a2 : Array Value) (d' m' : DS) (k' : Int) : Ending → World → Prop := fun e W1 => e = e1 ∧ Below w0.heap.size w0 W1 ∧ Only S W W1 ∧ ∀ W2, Below W1.heap.size W1 W2 → Calls Try.prog f2 a2 W2 fun e W3 => e = e2 ∧ ∃ S', Pair S' w0 W3 g g2 d' m' k' ∧ Step S W S' W3
theorem Pair.app {A : Option Addr} {n c : Nat} {x : List Int} {sb : ByteArray} (p : Pair S w0 W g g2 d m k) (hk : k < 4096) (hC : bK.C w0 A n x) (hn : n ≤ 4294967296) (hx : ∀ y ∈ x, 0 ≤ y ∧ y ≤ 255) (hsb : sb = strOfNums x) :
    Calls Try.prog 12 #[.pointer (some ⟨g, 0, none⟩), .string s, .slice A n c] W (After S w0 W g g2 (.returned (.int .i64 (d.append s x).1)) (.returned (.int .i64 (d.append s x).1)) 43 #[.pointer (some ⟨g2, 0, none⟩), .string s, .string sb] (d.append s x).2 (m.rappend s x).2 (k + 1)) := by
  have hln : n = x.length := (Kd.F_len (Kd.C_F (Kd.heap_int .u8) hC)).symm
  refine p.two (fun S1 hS h1 => dApp h1 p.bel.size p.up hk ?_ hn hx) (fun S2 W2 hB h2 => h2.app hB p.tw p.up hk hsb hx (by omega)) (p.tw.append s x).2 (p.up.append s hx)
  exact Kd.F_mono (Kd.F_below (Kd.C_F (Kd.heap_int .u8) hC) p.bel) (fun j hj hS1 => by have := h1.lo j hS1; omega)
theorem Pair.sync (p : Pair S w0 W g g2 d m k) (hk : k < 4096) :
    Calls Try.prog 15 #[.pointer (some ⟨g, 0, none⟩), .string s] W (After S w0 W g g2 (.returned (.int .i64 (d.sync s).1)) (.returned (.int .i64 (d.sync s).1)) 44 #[.pointer (some ⟨g2, 0, none⟩), .string s] (d.sync s).2 (m.rsync s).2 (k + 1)) :=
  p.two (fun S1 hS h1 => dSync h1 p.bel.size p.up hk) (fun S2 W2 hB h2 => h2.sync hB p.tw p.up hk) (p.tw.sync s).2 (p.up.sync s)
theorem Pair.cut {n : Int} (p : Pair S w0 W g g2 d m k) (hk : k < 4096) :
    Calls Try.prog 19 #[.pointer (some ⟨g, 0, none⟩), .string s, .int .i64 n] W (After S w0 W g g2 (.returned (.int .i64 (d.cut s n).1)) (.returned (.int .i64 (d.cut s n).1)) 45 #[.pointer (some ⟨g2, 0, none⟩), .string s, .int .i64 n] (d.cut s n).2 (m.rcut s n).2 (k + 1)) :=
  p.two (fun S1 hS h1 => dCut h1 p.bel.size p.up hk) (fun S2 W2 hB h2 => h2.cut hB p.tw p.up hk) (p.tw.cut s n).2 (p.up.cut s n)
theorem Pair.rename {b : ByteArray} (p : Pair S w0 W g g2 d m k) (hk : k < 4096) :
    Calls Try.prog 18 #[.pointer (some ⟨g, 0, none⟩), .string s, .string b] W (After S w0 W g g2 (.returned (.int .i64 (d.rename s b).1)) (.returned (.int .i64 (d.rename s b).1)) 46 #[.pointer (some ⟨g2, 0, none⟩), .string s, .string b] (d.rename s b).2 (m.rrename s b).2 (k + 1)) :=
  p.two (fun S1 hS h1 => dRename h1 p.bel.size p.up hk) (fun S2 W2 hB h2 => h2.rename hB p.tw p.up hk) (p.tw.rename s b).2 (p.up.rename s b)
theorem Pair.remove (p : Pair S w0 W g g2 d m k) (hk : k < 4096) :
    Calls Try.prog 20 #[.pointer (some ⟨g, 0, none⟩), .string s] W (After S w0 W g g2 (.returned (.int .i64 (d.remove s).1)) (.returned (.int .i64 (d.remove s).1)) 47 #[.pointer (some ⟨g2, 0, none⟩), .string s] (d.remove s).2 (m.remove s).2 (k + 1)) :=
  p.two (fun S1 hS h1 => dRemove h1 p.bel.size p.up hk) (fun S2 W2 hB h2 => h2.remove hB p.tw p.up hk) (p.tw.remove s).2 (p.up.remove s)
theorem Pair.off {keep : Int} {torn : Bool} (p : Pair S w0 W g g2 d m k) (hk : k < 4096) :
    Calls Try.prog 16 #[.pointer (some ⟨g, 0, none⟩), .int .i64 keep, .bool torn] W (After S w0 W g g2 (.returned (.tuple #[])) (.returned (.tuple #[])) 48 #[.pointer (some ⟨g2, 0, none⟩), .int .i64 keep, .bool torn] (d.off keep torn) (m.off keep torn) (k + 1)) :=
  p.two (fun S1 hS h1 => dOff h1 p.bel.size p.up) (fun S2 W2 hB h2 => h2.lose hB p.tw p.up hk) (p.tw.off keep torn) (p.up.off keep torn).more
theorem Pair.arm {n keep : Int} {torn : Bool} (p : Pair S w0 W g g2 d m k) (hn : n ≤ 9223372036854775807) :
    Calls Try.prog 14 #[.pointer (some ⟨g, 0, none⟩), .int .i64 n, .int .i64 keep, .bool torn] W (After S w0 W g g2 (.returned (.tuple #[])) (.returned (.tuple #[])) 49 #[.pointer (some ⟨g2, 0, none⟩), .int .i64 n, .int .i64 keep, .bool torn] (d.arm n keep torn) (m.arm n keep torn) (k + 1)) :=
  p.two (fun S1 hS h1 => dArm h1 p.bel.size) (fun S2 W2 hB h2 => h2.arm hB) (p.tw.arm n keep torn) (p.up.arm n keep torn hn).more
/-- The device is on again; then the twin's mark is turned. -/
theorem Pair.on_ (p : Pair S w0 W g g2 d m k) :
    Calls Try.prog 17 #[.pointer (some ⟨g, 0, none⟩)] W fun e W1 => e = .returned (.tuple #[]) ∧ Below w0.heap.size w0 W1 ∧ W1.cell? ⟨g2, 2, none⟩ = some (.bool d.down) ∧ W1.frozen? ⟨g2, 2, none⟩ = false ∧ ∃ S', Pair S' w0 (W1.setCell ⟨g2, 2, none⟩ (.bool false)) g g2 d.on m.on (k + 1) ∧ Step S W S' (W1.setCell ⟨g2, 2, none⟩ (.bool false)) := by
  obtain ⟨S1, S2, h1, h2, hd, he⟩ := p.ex
  refine (On_D h1 p.bel.size).mono ?_
  rintro e W1 ⟨S1', rfl, D1, st1⟩
  have b1 : Below w0.heap.size w0 W1 := p.bel.trans (st1.below h1.lo p.bel.size)
  have r1 := h2.other st1.only (fun j hj h => hd j h hj)
  obtain ⟨v, hv⟩ := r1.at_
  have z := hv.cell 2
  refine ⟨rfl, b1, by rw [z, ← p.tw.down]; rfl, hv.frozen 2, ?_⟩
  have hv2 := hv.set_ m.on 2 (.bool false) rfl rfl
  have hO : Only S2 W1 (W1.setCell ⟨g2, 2, none⟩ (.bool false)) := (Only.refl S2 W1).setCell (.inl hv.sg) _
  have R2 : RDev S2 w0.heap.size (W1.setCell ⟨g2, 2, none⟩ (.bool false)) g2 m.on := ⟨⟨v, hv2⟩, r1.lo, fun j hj => Nat.lt_of_lt_of_le (r1.hi j hj) hO.size⟩
  exact Pair.join p.bel h1 h2 hd he st1 D1 ⟨hO, fun _ h => .inl h⟩ R2 p.tw.on p.up.on.more
end
end Go.Proofs.Ytoedkemjidgbeaa.Dk
/- does: a call on a device and on its twin. -/
namespace Go.Proofs.Ytoedkemjidgbeaa.Dk
open Go Go.RowKit Go.Proofs.YtoedkemjidgbeaaW.PrintWords Go.Proofs.YtoedkemjidgbeaaW.PrintLast Go.Proofs.YtoedkemjidgbeaaW.PrintMore Go.Proofs.YtoedkemjidgbeaaMy Go.Proofs.Ytoedkemjidgbeaa Go.Proofs.YtoedkemjidgbeaaPw Go.Proofs.Ytoedkemjidgbeaa.PAll
set_option linter.unusedVariables false
set_option linter.unusedSimpArgs false
section
variable {S : Nat → Prop} {W w0 : World} {g g2 : Nat} {d m : DS} {k : Int} {a z : ByteArray} {n kp : Int} {tn : Bool} {A : Option Addr} {nb c : Nat} {xs : List Int}
set_option maxHeartbeats 4000000 in
set_option maxRecDepth 100000 in
theorem Does_0 (p : Pair S w0 W g g2 d m k) (hk : k < 4096) (hC : bK.C w0 A nb xs) (hn : nb ≤ 4294967296) (hx : ∀ y ∈ xs, 0 ≤ y ∧ y ≤ 255) (hn3 : n ≤ 9223372036854775807) : Calls Try.prog 25 #[.pointer (some ⟨g, 0, none⟩), .pointer (some ⟨g2, 0, none⟩), .agg #[.int .i64 0, .string a, .string z, .int .i64 n, .int .i64 kp, .bool tn, .slice A nb c]] W fun e W' => e = .returned (.bool true) ∧ ∃ S', Pair S' w0 W' g g2 (d.append a xs).2 (m.rappend a xs).2 (k + 1) ∧ Step S W S' W' := by
  have hb0 : Below W.heap.size W (W.alloc (.cells #[.int .i64 0, .string a, .string z, .int .i64 n, .int .i64 kp, .bool tn, .slice A nb c] 50 (0, 0))) := below_alloc (Below.refl _ _) _
  have hb1 : Below W.heap.size W (W.alloc (.cells #[.int .i64 0, .string a, .string z, .int .i64 n, .int .i64 kp, .bool tn, .slice A nb c] 50 (0, 0))).drew := below_drew1 hb0
  have HB1 := Aside0.mk hb1
  have PB := Aside0.mk (p.below hb0)
  have PD := Aside0.mk (p.below hb1)
  have HBl0 := Aside0.mk (p.below hb1).bel
  have HNs := Aside0.mk (show ¬ S W.heap.size from fun h => Nat.lt_irrefl _ (p.hi _ h))
  have hbx := blk_new W (.cells #[.int .i64 0, .string a, .string z, .int .i64 n, .int .i64 kp, .bool tn, .slice A nb c] 50 (0, 0))
  have k1 : (W.alloc (.cells #[.int .i64 0, .string a, .string z, .int .i64 n, .int .i64 kp, .bool tn, .slice A nb c] 50 (0, 0))).cell? ⟨W.heap.size, 1, none⟩ = some (.string a) := (blk_cell hbx 1).trans rfl
  have k2 : (W.alloc (.cells #[.int .i64 0, .string a, .string z, .int .i64 n, .int .i64 kp, .bool tn, .slice A nb c] 50 (0, 0))).cell? ⟨W.heap.size, 2, none⟩ = some (.string z) := (blk_cell hbx 2).trans rfl
  have k3 : (W.alloc (.cells #[.int .i64 0, .string a, .string z, .int .i64 n, .int .i64 kp, .bool tn, .slice A nb c] 50 (0, 0))).cell? ⟨W.heap.size, 3, none⟩ = some (.int .i64 n) := (blk_cell hbx 3).trans rfl
  have k4 : (W.alloc (.cells #[.int .i64 0, .string a, .string z, .int .i64 n, .int .i64 kp, .bool tn, .slice A nb c] 50 (0, 0))).cell? ⟨W.heap.size, 4, none⟩ = some (.int .i64 kp) := (blk_cell hbx 4).trans rfl
  have k5 : (W.alloc (.cells #[.int .i64 0, .string a, .string z, .int .i64 n, .int .i64 kp, .bool tn, .slice A nb c] 50 (0, 0))).cell? ⟨W.heap.size, 5, none⟩ = some (.bool tn) := (blk_cell hbx 5).trans rfl
  have k6 : (W.alloc (.cells #[.int .i64 0, .string a, .string z, .int .i64 n, .int .i64 kp, .bool tn, .slice A nb c] 50 (0, 0))).cell? ⟨W.heap.size, 6, none⟩ = some (.slice A nb c) := (blk_cell hbx 6).trans rfl
  obtain ⟨sb, hsb⟩ : ∃ s, s = strOfNums xs := ⟨_, rfl⟩
  have HCv := Aside0.mk (show ∀ W', Below w0.heap.size w0 W' → (convert 22 9 (.slice A nb c)).run Try.prog W' = .ok (.string sb) W' from fun W' hb => by rw [hsb]; exact str_C (C_below hC hb))
  have HSb := Aside0.mk hsb
  have HP := Aside0.mk p
  have HC := Aside0.mk hC
  clear hb0 hb1 hbx hsb p
  go_enter Try.func25, Try.ntmps25
  go_wp2
  refine start_ (n := 15) (S := fun w' => w'.cell? ⟨W.heap.size, 1, none⟩ = some (.string a) ∧ w'.cell? ⟨W.heap.size, 2, none⟩ = some (.string z) ∧ w'.cell? ⟨W.heap.size, 3, none⟩ = some (.int .i64 n) ∧ w'.cell? ⟨W.heap.size, 6, none⟩ = some (.slice A nb c) ∧ Below w0.heap.size w0 w') (ds := [12]) #[false, false, false, false, false, false, false, false, false, false, false, false, false, false, false] (by kernel_rfl) rfl rfl ⟨k1, k2, k3, k6, HBl0.out⟩ (fun hHeld => ?_)
  refine pure_ (i := 0) (N := some 15) (v := ?_) (a' := ?_) #[true, false, false, false, false, false, false, false, false, false, false, false, false, false, false] rfl rfl (by kernel_rfl) (fun _ _ _ h => h) (Or.inl ⟨by rfl, ?_⟩) ?_ ?_
  rotate_left
  · intro w'
    go_simp
    with_reducible rfl
  rotate_left
  · simp only [Act.put, List.setIfInBounds_toArray, List.set_cons_zero, List.set_cons_succ, i64_w, i32_w]
    rfl
  refine pure_ (i := 1) (N := some 16) (v := ?_) (a' := ?_) #[true, true, false, false, false, false, false, false, false, false, false, false, false, false, false] rfl rfl (by kernel_rfl) (fun _ _ _ h => h) (Or.inl ⟨by rfl, ?_⟩) ?_ ?_
  rotate_left
  · intro w'
    go_simp
    with_reducible rfl
  rotate_left
  · simp only [Act.put, List.setIfInBounds_toArray, List.set_cons_zero, List.set_cons_succ, i64_w, i32_w]
    rfl
  refine take_ (i := 2) (N := some 17) (v := ?_) (a' := ?_) #[true, true, true, false, false, false, false, false, false, false, false, false, false, false, false] rfl rfl (by kernel_rfl) (fun _ _ _ h => h) (Or.inl ⟨by rfl, ?_⟩) hHeld ?_ ?_
  rotate_left
  · intro w' s0
    obtain ⟨y1, y2, y3, y6, yb⟩ := s0
    go_simp
    with_reducible rfl
  rotate_left
  · simp only [Act.put, List.setIfInBounds_toArray, List.set_cons_zero, List.set_cons_succ, i64_w, i32_w]
    rfl
  refine pure_ (i := 3) (N := some 18) (v := ?_) (a' := ?_) #[true, true, true, true, false, false, false, false, false, false, false, false, false, false, false] rfl rfl (by kernel_rfl) (fun _ _ _ h => h) (Or.inl ⟨by rfl, ?_⟩) ?_ ?_
  rotate_left
  · intro w'
    go_simp
    with_reducible rfl
  rotate_left
  · simp only [Act.put, List.setIfInBounds_toArray, List.set_cons_zero, List.set_cons_succ, i64_w, i32_w]
    rfl
  refine take_ (i := 4) (N := some 19) (v := ?_) (a' := ?_) #[true, true, true, true, true, false, false, false, false, false, false, false, false, false, false] rfl rfl (by kernel_rfl) (fun _ _ _ h => h) (Or.inl ⟨by rfl, ?_⟩) hHeld ?_ ?_
  rotate_left
  · intro w' s0
    obtain ⟨y1, y2, y3, y6, yb⟩ := s0
    go_simp
    with_reducible rfl
  rotate_left
  · simp only [Act.put, List.setIfInBounds_toArray, List.set_cons_zero, List.set_cons_succ, i64_w, i32_w]
    rfl
  refine pure_ (i := 6) (N := some 21) (v := ?_) (a' := ?_) #[true, true, true, true, true, false, true, false, false, false, false, false, false, false, false] rfl rfl (by kernel_rfl) (fun _ _ _ h => h) (Or.inl ⟨by rfl, ?_⟩) ?_ ?_
  rotate_left
  · intro w'
    go_simp
    with_reducible rfl
  rotate_left
  · simp only [Act.put, List.setIfInBounds_toArray, List.set_cons_zero, List.set_cons_succ, i64_w, i32_w]
    rfl
  refine pure_ (i := 7) (N := some 22) (v := ?_) (a' := ?_) #[true, true, true, true, true, false, true, true, false, false, false, false, false, false, false] rfl rfl (by kernel_rfl) (fun _ _ _ h => h) (Or.inl ⟨by rfl, ?_⟩) ?_ ?_
  rotate_left
  · intro w'
    go_simp
    with_reducible rfl
  rotate_left
  · simp only [Act.put, List.setIfInBounds_toArray, List.set_cons_zero, List.set_cons_succ, i64_w, i32_w]
    rfl
  refine take_ (i := 8) (N := some 23) (v := ?_) (a' := ?_) #[true, true, true, true, true, false, true, true, true, false, false, false, false, false, false] rfl rfl (by kernel_rfl) (fun _ _ _ h => h) (Or.inl ⟨by rfl, ?_⟩) hHeld ?_ ?_
  rotate_left
  · intro w' s0
    obtain ⟨y1, y2, y3, y6, yb⟩ := s0
    go_simp
    with_reducible rfl
  rotate_left
  · simp only [Act.put, List.setIfInBounds_toArray, List.set_cons_zero, List.set_cons_succ, i64_w, i32_w]
    rfl
  refine pure_ (i := 9) (N := some 24) (v := ?_) (a' := ?_) #[true, true, true, true, true, false, true, true, true, true, false, false, false, false, false] rfl rfl (by kernel_rfl) (fun _ _ _ h => h) (Or.inl ⟨by rfl, ?_⟩) ?_ ?_
  rotate_left
  · intro w'
    go_simp
    with_reducible rfl
  rotate_left
  · simp only [Act.put, List.setIfInBounds_toArray, List.set_cons_zero, List.set_cons_succ, i64_w, i32_w]
    rfl
  refine take_ (i := 10) (N := some 25) (v := ?_) (a' := ?_) #[true, true, true, true, true, false, true, true, true, true, true, false, false, false, false] rfl rfl (by kernel_rfl) (fun _ _ _ h => h) (Or.inl ⟨by rfl, ?_⟩) hHeld ?_ ?_
  rotate_left
  · intro w' s0
    obtain ⟨y1, y2, y3, y6, yb⟩ := s0
    go_simp
    with_reducible rfl
  rotate_left
  · simp only [Act.put, List.setIfInBounds_toArray, List.set_cons_zero, List.set_cons_succ, i64_w, i32_w]
    rfl
  refine take_ (i := 11) (N := some 26) (v := ?_) (a' := ?_) #[true, true, true, true, true, false, true, true, true, true, true, true, false, false, false] rfl rfl (by kernel_rfl) (fun _ _ _ h => h) (Or.inl ⟨by rfl, ?_⟩) hHeld ?_ ?_
  rotate_left
  · intro w' s0
    obtain ⟨y1, y2, y3, y6, yb⟩ := s0
    have hcv := HCv.out _ yb
    go_simp
    with_reducible rfl
  rotate_left
  · simp only [Act.put, List.setIfInBounds_toArray, List.set_cons_zero, List.set_cons_succ, i64_w, i32_w]
    rfl
  clear hHeld
  refine one_ (i := 5) (N := some 20) #[true, true, true, true, true, true, true, true, true, true, true, true, false, false, false] rfl rfl (by kernel_rfl) (by decide) (fun K hK => ?_)
  refine goes_ Try.func12 (by kernel_rfl) rfl #[.pointer (some ⟨g, 0, none⟩), .string a, .slice A nb c] (by rfl) rfl rfl (by (try simp only [List.map_toArray, List.map_cons, List.map_nil]); first | done | rfl) ?_
  refine (PD.out.app hk HC.out hn hx HSb.out).mono ?_
  rintro e w1 ⟨rfl, hb1, ho1, hnext⟩
  refine ⟨_, rfl, ?_⟩
  have hS1 := And.intro (ho1.cell k1 HNs.out) (And.intro (ho1.cell k2 HNs.out) (And.intro (ho1.cell k3 HNs.out) (And.intro (ho1.cell k6 HNs.out) hb1)))
  refine hK.out _ _ hS1 (fun hHeld => ?_)
  clear hK K
  refine norm_ (a' := ?_) ?_ ?_
  rotate_left
  · show Act.put _ (some 20) _ = _
    simp only [Act.put, List.setIfInBounds_toArray, List.set_cons_zero, List.set_cons_succ, i64_w, i32_w]
    rfl
  refine last_ (i := 12) (N := some 27) #[true, true, true, true, true, true, true, true, true, true, true, true, true, false, false] rfl rfl (by kernel_rfl) (by decide) (fun K hK => ?_)
  refine goes_ Try.func43 (by kernel_rfl) rfl #[.pointer (some ⟨g2, 0, none⟩), .string a, .string sb] (by rfl) rfl rfl (by (try simp only [List.map_toArray, List.map_cons, List.map_nil]); first | done | rfl) ?_
  refine (hnext _ (Below.refl _ _)).mono ?_
  rintro e w3 ⟨rfl, S3, hp3, hst3⟩
  refine ⟨_, rfl, ?_⟩
  have HP3 := Aside0.mk hp3
  have HS3 := Aside0.mk hst3
  clear hp3 hst3 hnext hS1 ho1 hb1 hHeld
  refine hK.out _ _ ?_
  clear hK K
  refine norm_ (a' := ?_) ?_ ?_
  rotate_left
  · show Act.put _ (some 27) _ = _
    simp only [Act.put, List.setIfInBounds_toArray, List.set_cons_zero, List.set_cons_succ, i64_w, i32_w]
    rfl
  refine pure_ (i := 13) (N := some 28) (v := ?_) (a' := ?_) #[true, true, true, true, true, true, true, true, true, true, true, true, true, true, false] rfl rfl (by kernel_rfl) (fun _ _ _ h => h) (Or.inl ⟨by rfl, ?_⟩) ?_ ?_
  rotate_left
  · intro w'
    go_simp
    with_reducible rfl
  rotate_left
  · simp only [Act.put, List.setIfInBounds_toArray, List.set_cons_zero, List.set_cons_succ, i64_w, i32_w]
    rfl
  refine pure_ (i := 14) (N := some 6) (v := ?_) (a' := ?_) #[true, true, true, true, true, true, true, true, true, true, true, true, true, true, true] rfl rfl (by kernel_rfl) (fun _ _ _ h => h) (Or.inl ⟨by rfl, ?_⟩) ?_ ?_
  rotate_left
  · intro w'
    go_simp
    with_reducible rfl
  rotate_left
  · simp only [Act.put, List.setIfInBounds_toArray, List.set_cons_zero, List.set_cons_succ, i64_w, i32_w]
    rfl
  refine done_ (by kernel_rfl) ?_
  go_wp2
  go_ret
  exact ⟨rfl, S3, HP3.out, HS3.out.after HB1.out⟩
set_option maxHeartbeats 4000000 in
set_option maxRecDepth 100000 in
theorem Does_2 (p : Pair S w0 W g g2 d m k) (hk : k < 4096) (hC : bK.C w0 A nb xs) (hn : nb ≤ 4294967296) (hx : ∀ y ∈ xs, 0 ≤ y ∧ y ≤ 255) (hn3 : n ≤ 9223372036854775807) : Calls Try.prog 25 #[.pointer (some ⟨g, 0, none⟩), .pointer (some ⟨g2, 0, none⟩), .agg #[.int .i64 2, .string a, .string z, .int .i64 n, .int .i64 kp, .bool tn, .slice A nb c]] W fun e W' => e = .returned (.bool true) ∧ ∃ S', Pair S' w0 W' g g2 (d.sync a).2 (m.rsync a).2 (k + 1) ∧ Step S W S' W' := by
  have hb0 : Below W.heap.size W (W.alloc (.cells #[.int .i64 2, .string a, .string z, .int .i64 n, .int .i64 kp, .bool tn, .slice A nb c] 50 (0, 0))) := below_alloc (Below.refl _ _) _
  have hb1 : Below W.heap.size W (W.alloc (.cells #[.int .i64 2, .string a, .string z, .int .i64 n, .int .i64 kp, .bool tn, .slice A nb c] 50 (0, 0))).drew := below_drew1 hb0
  have HB1 := Aside0.mk hb1
  have PB := Aside0.mk (p.below hb0)
  have PD := Aside0.mk (p.below hb1)
  have HBl0 := Aside0.mk (p.below hb1).bel
  have HNs := Aside0.mk (show ¬ S W.heap.size from fun h => Nat.lt_irrefl _ (p.hi _ h))
  have hbx := blk_new W (.cells #[.int .i64 2, .string a, .string z, .int .i64 n, .int .i64 kp, .bool tn, .slice A nb c] 50 (0, 0))
  have k1 : (W.alloc (.cells #[.int .i64 2, .string a, .string z, .int .i64 n, .int .i64 kp, .bool tn, .slice A nb c] 50 (0, 0))).cell? ⟨W.heap.size, 1, none⟩ = some (.string a) := (blk_cell hbx 1).trans rfl
  have k2 : (W.alloc (.cells #[.int .i64 2, .string a, .string z, .int .i64 n, .int .i64 kp, .bool tn, .slice A nb c] 50 (0, 0))).cell? ⟨W.heap.size, 2, none⟩ = some (.string z) := (blk_cell hbx 2).trans rfl
  have k3 : (W.alloc (.cells #[.int .i64 2, .string a, .string z, .int .i64 n, .int .i64 kp, .bool tn, .slice A nb c] 50 (0, 0))).cell? ⟨W.heap.size, 3, none⟩ = some (.int .i64 n) := (blk_cell hbx 3).trans rfl
  have k4 : (W.alloc (.cells #[.int .i64 2, .string a, .string z, .int .i64 n, .int .i64 kp, .bool tn, .slice A nb c] 50 (0, 0))).cell? ⟨W.heap.size, 4, none⟩ = some (.int .i64 kp) := (blk_cell hbx 4).trans rfl
  have k5 : (W.alloc (.cells #[.int .i64 2, .string a, .string z, .int .i64 n, .int .i64 kp, .bool tn, .slice A nb c] 50 (0, 0))).cell? ⟨W.heap.size, 5, none⟩ = some (.bool tn) := (blk_cell hbx 5).trans rfl
  have k6 : (W.alloc (.cells #[.int .i64 2, .string a, .string z, .int .i64 n, .int .i64 kp, .bool tn, .slice A nb c] 50 (0, 0))).cell? ⟨W.heap.size, 6, none⟩ = some (.slice A nb c) := (blk_cell hbx 6).trans rfl
  obtain ⟨sb, hsb⟩ : ∃ s, s = strOfNums xs := ⟨_, rfl⟩
  have HCv := Aside0.mk (show ∀ W', Below w0.heap.size w0 W' → (convert 22 9 (.slice A nb c)).run Try.prog W' = .ok (.string sb) W' from fun W' hb => by rw [hsb]; exact str_C (C_below hC hb))
  have HSb := Aside0.mk hsb
  have HP := Aside0.mk p
  have HC := Aside0.mk hC
  clear hb0 hb1 hbx hsb p
  go_enter Try.func25, Try.ntmps25
  go_wp2
  refine start_ (n := 10) (S := fun w' => w'.cell? ⟨W.heap.size, 1, none⟩ = some (.string a) ∧ w'.cell? ⟨W.heap.size, 2, none⟩ = some (.string z) ∧ w'.cell? ⟨W.heap.size, 3, none⟩ = some (.int .i64 n) ∧ w'.cell? ⟨W.heap.size, 6, none⟩ = some (.slice A nb c) ∧ Below w0.heap.size w0 w') (ds := [7]) #[false, false, false, false, false, false, false, false, false, false] (by kernel_rfl) rfl rfl ⟨k1, k2, k3, k6, HBl0.out⟩ (fun hHeld => ?_)
  refine pure_ (i := 0) (N := some 56) (v := ?_) (a' := ?_) #[true, false, false, false, false, false, false, false, false, false] rfl rfl (by kernel_rfl) (fun _ _ _ h => h) (Or.inl ⟨by rfl, ?_⟩) ?_ ?_
  rotate_left
  · intro w'
    go_simp
    with_reducible rfl
  rotate_left
  · simp only [Act.put, List.setIfInBounds_toArray, List.set_cons_zero, List.set_cons_succ, i64_w, i32_w]
    rfl
  refine pure_ (i := 1) (N := some 57) (v := ?_) (a' := ?_) #[true, true, false, false, false, false, false, false, false, false] rfl rfl (by kernel_rfl) (fun _ _ _ h => h) (Or.inl ⟨by rfl, ?_⟩) ?_ ?_
  rotate_left
  · intro w'
    go_simp
    with_reducible rfl
  rotate_left
  · simp only [Act.put, List.setIfInBounds_toArray, List.set_cons_zero, List.set_cons_succ, i64_w, i32_w]
    rfl
  refine take_ (i := 2) (N := some 58) (v := ?_) (a' := ?_) #[true, true, true, false, false, false, false, false, false, false] rfl rfl (by kernel_rfl) (fun _ _ _ h => h) (Or.inl ⟨by rfl, ?_⟩) hHeld ?_ ?_
  rotate_left
  · intro w' s0
    obtain ⟨y1, y2, y3, y6, yb⟩ := s0
    go_simp
    with_reducible rfl
  rotate_left
  · simp only [Act.put, List.setIfInBounds_toArray, List.set_cons_zero, List.set_cons_succ, i64_w, i32_w]
    rfl
  refine pure_ (i := 4) (N := some 60) (v := ?_) (a' := ?_) #[true, true, true, false, true, false, false, false, false, false] rfl rfl (by kernel_rfl) (fun _ _ _ h => h) (Or.inl ⟨by rfl, ?_⟩) ?_ ?_
  rotate_left
  · intro w'
    go_simp
    with_reducible rfl
  rotate_left
  · simp only [Act.put, List.setIfInBounds_toArray, List.set_cons_zero, List.set_cons_succ, i64_w, i32_w]
    rfl
  refine pure_ (i := 5) (N := some 61) (v := ?_) (a' := ?_) #[true, true, true, false, true, true, false, false, false, false] rfl rfl (by kernel_rfl) (fun _ _ _ h => h) (Or.inl ⟨by rfl, ?_⟩) ?_ ?_
  rotate_left
  · intro w'
    go_simp
    with_reducible rfl
  rotate_left
  · simp only [Act.put, List.setIfInBounds_toArray, List.set_cons_zero, List.set_cons_succ, i64_w, i32_w]
    rfl
  refine take_ (i := 6) (N := some 62) (v := ?_) (a' := ?_) #[true, true, true, false, true, true, true, false, false, false] rfl rfl (by kernel_rfl) (fun _ _ _ h => h) (Or.inl ⟨by rfl, ?_⟩) hHeld ?_ ?_
  rotate_left
  · intro w' s0
    obtain ⟨y1, y2, y3, y6, yb⟩ := s0
    go_simp
    with_reducible rfl
  rotate_left
  · simp only [Act.put, List.setIfInBounds_toArray, List.set_cons_zero, List.set_cons_succ, i64_w, i32_w]
    rfl
  clear hHeld
  refine one_ (i := 3) (N := some 59) #[true, true, true, true, true, true, true, false, false, false] rfl rfl (by kernel_rfl) (by decide) (fun K hK => ?_)
  refine goes_ Try.func15 (by kernel_rfl) rfl #[.pointer (some ⟨g, 0, none⟩), .string a] (by rfl) rfl rfl (by (try simp only [List.map_toArray, List.map_cons, List.map_nil]); first | done | rfl) ?_
  refine (PD.out.sync hk).mono ?_
  rintro e w1 ⟨rfl, hb1, ho1, hnext⟩
  refine ⟨_, rfl, ?_⟩
  have hS1 := And.intro (ho1.cell k1 HNs.out) (And.intro (ho1.cell k2 HNs.out) (And.intro (ho1.cell k3 HNs.out) (And.intro (ho1.cell k6 HNs.out) hb1)))
  refine hK.out _ _ hS1 (fun hHeld => ?_)
  clear hK K
  refine norm_ (a' := ?_) ?_ ?_
  rotate_left
  · show Act.put _ (some 59) _ = _
    simp only [Act.put, List.setIfInBounds_toArray, List.set_cons_zero, List.set_cons_succ, i64_w, i32_w]
    rfl
  refine last_ (i := 7) (N := some 63) #[true, true, true, true, true, true, true, true, false, false] rfl rfl (by kernel_rfl) (by decide) (fun K hK => ?_)
  refine goes_ Try.func44 (by kernel_rfl) rfl #[.pointer (some ⟨g2, 0, none⟩), .string a] (by rfl) rfl rfl (by (try simp only [List.map_toArray, List.map_cons, List.map_nil]); first | done | rfl) ?_
  refine (hnext _ (Below.refl _ _)).mono ?_
  rintro e w3 ⟨rfl, S3, hp3, hst3⟩
  refine ⟨_, rfl, ?_⟩
  have HP3 := Aside0.mk hp3
  have HS3 := Aside0.mk hst3
  clear hp3 hst3 hnext hS1 ho1 hb1 hHeld
  refine hK.out _ _ ?_
  clear hK K
  refine norm_ (a' := ?_) ?_ ?_
  rotate_left
  · show Act.put _ (some 63) _ = _
    simp only [Act.put, List.setIfInBounds_toArray, List.set_cons_zero, List.set_cons_succ, i64_w, i32_w]
    rfl
  refine pure_ (i := 8) (N := some 64) (v := ?_) (a' := ?_) #[true, true, true, true, true, true, true, true, true, false] rfl rfl (by kernel_rfl) (fun _ _ _ h => h) (Or.inl ⟨by rfl, ?_⟩) ?_ ?_
  rotate_left
  · intro w'
    go_simp
    with_reducible rfl
  rotate_left
  · simp only [Act.put, List.setIfInBounds_toArray, List.set_cons_zero, List.set_cons_succ, i64_w, i32_w]
    rfl
  refine pure_ (i := 9) (N := some 6) (v := ?_) (a' := ?_) #[true, true, true, true, true, true, true, true, true, true] rfl rfl (by kernel_rfl) (fun _ _ _ h => h) (Or.inl ⟨by rfl, ?_⟩) ?_ ?_
  rotate_left
  · intro w'
    go_simp
    with_reducible rfl
  rotate_left
  · simp only [Act.put, List.setIfInBounds_toArray, List.set_cons_zero, List.set_cons_succ, i64_w, i32_w]
    rfl
  refine done_ (by kernel_rfl) ?_
  go_wp2
  go_ret
  exact ⟨rfl, S3, HP3.out, HS3.out.after HB1.out⟩
set_option maxHeartbeats 4000000 in
set_option maxRecDepth 100000 in
theorem Does_3 (p : Pair S w0 W g g2 d m k) (hk : k < 4096) (hC : bK.C w0 A nb xs) (hn : nb ≤ 4294967296) (hx : ∀ y ∈ xs, 0 ≤ y ∧ y ≤ 255) (hn3 : n ≤ 9223372036854775807) : Calls Try.prog 25 #[.pointer (some ⟨g, 0, none⟩), .pointer (some ⟨g2, 0, none⟩), .agg #[.int .i64 3, .string a, .string z, .int .i64 n, .int .i64 kp, .bool tn, .slice A nb c]] W fun e W' => e = .returned (.bool true) ∧ ∃ S', Pair S' w0 W' g g2 (d.cut a n).2 (m.rcut a n).2 (k + 1) ∧ Step S W S' W' := by
  have hb0 : Below W.heap.size W (W.alloc (.cells #[.int .i64 3, .string a, .string z, .int .i64 n, .int .i64 kp, .bool tn, .slice A nb c] 50 (0, 0))) := below_alloc (Below.refl _ _) _
  have hb1 : Below W.heap.size W (W.alloc (.cells #[.int .i64 3, .string a, .string z, .int .i64 n, .int .i64 kp, .bool tn, .slice A nb c] 50 (0, 0))).drew := below_drew1 hb0
  have HB1 := Aside0.mk hb1
  have PB := Aside0.mk (p.below hb0)
  have PD := Aside0.mk (p.below hb1)
  have HBl0 := Aside0.mk (p.below hb1).bel
  have HNs := Aside0.mk (show ¬ S W.heap.size from fun h => Nat.lt_irrefl _ (p.hi _ h))
  have hbx := blk_new W (.cells #[.int .i64 3, .string a, .string z, .int .i64 n, .int .i64 kp, .bool tn, .slice A nb c] 50 (0, 0))
  have k1 : (W.alloc (.cells #[.int .i64 3, .string a, .string z, .int .i64 n, .int .i64 kp, .bool tn, .slice A nb c] 50 (0, 0))).cell? ⟨W.heap.size, 1, none⟩ = some (.string a) := (blk_cell hbx 1).trans rfl
  have k2 : (W.alloc (.cells #[.int .i64 3, .string a, .string z, .int .i64 n, .int .i64 kp, .bool tn, .slice A nb c] 50 (0, 0))).cell? ⟨W.heap.size, 2, none⟩ = some (.string z) := (blk_cell hbx 2).trans rfl
  have k3 : (W.alloc (.cells #[.int .i64 3, .string a, .string z, .int .i64 n, .int .i64 kp, .bool tn, .slice A nb c] 50 (0, 0))).cell? ⟨W.heap.size, 3, none⟩ = some (.int .i64 n) := (blk_cell hbx 3).trans rfl
  have k4 : (W.alloc (.cells #[.int .i64 3, .string a, .string z, .int .i64 n, .int .i64 kp, .bool tn, .slice A nb c] 50 (0, 0))).cell? ⟨W.heap.size, 4, none⟩ = some (.int .i64 kp) := (blk_cell hbx 4).trans rfl
  have k5 : (W.alloc (.cells #[.int .i64 3, .string a, .string z, .int .i64 n, .int .i64 kp, .bool tn, .slice A nb c] 50 (0, 0))).cell? ⟨W.heap.size, 5, none⟩ = some (.bool tn) := (blk_cell hbx 5).trans rfl
  have k6 : (W.alloc (.cells #[.int .i64 3, .string a, .string z, .int .i64 n, .int .i64 kp, .bool tn, .slice A nb c] 50 (0, 0))).cell? ⟨W.heap.size, 6, none⟩ = some (.slice A nb c) := (blk_cell hbx 6).trans rfl
  obtain ⟨sb, hsb⟩ : ∃ s, s = strOfNums xs := ⟨_, rfl⟩
  have HCv := Aside0.mk (show ∀ W', Below w0.heap.size w0 W' → (convert 22 9 (.slice A nb c)).run Try.prog W' = .ok (.string sb) W' from fun W' hb => by rw [hsb]; exact str_C (C_below hC hb))
  have HSb := Aside0.mk hsb
  have HP := Aside0.mk p
  have HC := Aside0.mk hC
  clear hb0 hb1 hbx hsb p
  go_enter Try.func25, Try.ntmps25
  go_wp2
  refine start_ (n := 14) (S := fun w' => w'.cell? ⟨W.heap.size, 1, none⟩ = some (.string a) ∧ w'.cell? ⟨W.heap.size, 2, none⟩ = some (.string z) ∧ w'.cell? ⟨W.heap.size, 3, none⟩ = some (.int .i64 n) ∧ w'.cell? ⟨W.heap.size, 6, none⟩ = some (.slice A nb c) ∧ Below w0.heap.size w0 w') (ds := [11]) #[false, false, false, false, false, false, false, false, false, false, false, false, false, false] (by kernel_rfl) rfl rfl ⟨k1, k2, k3, k6, HBl0.out⟩ (fun hHeld => ?_)
  refine pure_ (i := 0) (N := some 67) (v := ?_) (a' := ?_) #[true, false, false, false, false, false, false, false, false, false, false, false, false, false] rfl rfl (by kernel_rfl) (fun _ _ _ h => h) (Or.inl ⟨by rfl, ?_⟩) ?_ ?_
  rotate_left
  · intro w'
    go_simp
    with_reducible rfl
  rotate_left
  · simp only [Act.put, List.setIfInBounds_toArray, List.set_cons_zero, List.set_cons_succ, i64_w, i32_w]
    rfl
  refine pure_ (i := 1) (N := some 68) (v := ?_) (a' := ?_) #[true, true, false, false, false, false, false, false, false, false, false, false, false, false] rfl rfl (by kernel_rfl) (fun _ _ _ h => h) (Or.inl ⟨by rfl, ?_⟩) ?_ ?_
  rotate_left
  · intro w'
    go_simp
    with_reducible rfl
  rotate_left
  · simp only [Act.put, List.setIfInBounds_toArray, List.set_cons_zero, List.set_cons_succ, i64_w, i32_w]
    rfl
  refine take_ (i := 2) (N := some 69) (v := ?_) (a' := ?_) #[true, true, true, false, false, false, false, false, false, false, false, false, false, false] rfl rfl (by kernel_rfl) (fun _ _ _ h => h) (Or.inl ⟨by rfl, ?_⟩) hHeld ?_ ?_
  rotate_left
  · intro w' s0
    obtain ⟨y1, y2, y3, y6, yb⟩ := s0
    go_simp
    with_reducible rfl
  rotate_left
  · simp only [Act.put, List.setIfInBounds_toArray, List.set_cons_zero, List.set_cons_succ, i64_w, i32_w]
    rfl
  refine pure_ (i := 3) (N := some 70) (v := ?_) (a' := ?_) #[true, true, true, true, false, false, false, false, false, false, false, false, false, false] rfl rfl (by kernel_rfl) (fun _ _ _ h => h) (Or.inl ⟨by rfl, ?_⟩) ?_ ?_
  rotate_left
  · intro w'
    go_simp
    with_reducible rfl
  rotate_left
  · simp only [Act.put, List.setIfInBounds_toArray, List.set_cons_zero, List.set_cons_succ, i64_w, i32_w]
    rfl
  refine take_ (i := 4) (N := some 71) (v := ?_) (a' := ?_) #[true, true, true, true, true, false, false, false, false, false, false, false, false, false] rfl rfl (by kernel_rfl) (fun _ _ _ h => h) (Or.inl ⟨by rfl, ?_⟩) hHeld ?_ ?_
  rotate_left
  · intro w' s0
    obtain ⟨y1, y2, y3, y6, yb⟩ := s0
    go_simp
    with_reducible rfl
  rotate_left
  · simp only [Act.put, List.setIfInBounds_toArray, List.set_cons_zero, List.set_cons_succ, i64_w, i32_w]
    rfl
  refine pure_ (i := 6) (N := some 73) (v := ?_) (a' := ?_) #[true, true, true, true, true, false, true, false, false, false, false, false, false, false] rfl rfl (by kernel_rfl) (fun _ _ _ h => h) (Or.inl ⟨by rfl, ?_⟩) ?_ ?_
  rotate_left
  · intro w'
    go_simp
    with_reducible rfl
  rotate_left
  · simp only [Act.put, List.setIfInBounds_toArray, List.set_cons_zero, List.set_cons_succ, i64_w, i32_w]
    rfl
  refine pure_ (i := 7) (N := some 74) (v := ?_) (a' := ?_) #[true, true, true, true, true, false, true, true, false, false, false, false, false, false] rfl rfl (by kernel_rfl) (fun _ _ _ h => h) (Or.inl ⟨by rfl, ?_⟩) ?_ ?_
  rotate_left
  · intro w'
    go_simp
    with_reducible rfl
  rotate_left
  · simp only [Act.put, List.setIfInBounds_toArray, List.set_cons_zero, List.set_cons_succ, i64_w, i32_w]
    rfl
  refine take_ (i := 8) (N := some 75) (v := ?_) (a' := ?_) #[true, true, true, true, true, false, true, true, true, false, false, false, false, false] rfl rfl (by kernel_rfl) (fun _ _ _ h => h) (Or.inl ⟨by rfl, ?_⟩) hHeld ?_ ?_
  rotate_left
  · intro w' s0
    obtain ⟨y1, y2, y3, y6, yb⟩ := s0
    go_simp
    with_reducible rfl
  rotate_left
  · simp only [Act.put, List.setIfInBounds_toArray, List.set_cons_zero, List.set_cons_succ, i64_w, i32_w]
    rfl
  refine pure_ (i := 9) (N := some 76) (v := ?_) (a' := ?_) #[true, true, true, true, true, false, true, true, true, true, false, false, false, false] rfl rfl (by kernel_rfl) (fun _ _ _ h => h) (Or.inl ⟨by rfl, ?_⟩) ?_ ?_
  rotate_left
  · intro w'
    go_simp
    with_reducible rfl
  rotate_left
  · simp only [Act.put, List.setIfInBounds_toArray, List.set_cons_zero, List.set_cons_succ, i64_w, i32_w]
    rfl
  refine take_ (i := 10) (N := some 77) (v := ?_) (a' := ?_) #[true, true, true, true, true, false, true, true, true, true, true, false, false, false] rfl rfl (by kernel_rfl) (fun _ _ _ h => h) (Or.inl ⟨by rfl, ?_⟩) hHeld ?_ ?_
  rotate_left
  · intro w' s0
    obtain ⟨y1, y2, y3, y6, yb⟩ := s0
    go_simp
    with_reducible rfl
  rotate_left
  · simp only [Act.put, List.setIfInBounds_toArray, List.set_cons_zero, List.set_cons_succ, i64_w, i32_w]
    rfl
  clear hHeld
  refine one_ (i := 5) (N := some 72) #[true, true, true, true, true, true, true, true, true, true, true, false, false, false] rfl rfl (by kernel_rfl) (by decide) (fun K hK => ?_)
  refine goes_ Try.func19 (by kernel_rfl) rfl #[.pointer (some ⟨g, 0, none⟩), .string a, .int .i64 n] (by rfl) rfl rfl (by (try simp only [List.map_toArray, List.map_cons, List.map_nil]); first | done | rfl) ?_
  refine (PD.out.cut hk).mono ?_
  rintro e w1 ⟨rfl, hb1, ho1, hnext⟩
  refine ⟨_, rfl, ?_⟩
  have hS1 := And.intro (ho1.cell k1 HNs.out) (And.intro (ho1.cell k2 HNs.out) (And.intro (ho1.cell k3 HNs.out) (And.intro (ho1.cell k6 HNs.out) hb1)))
  refine hK.out _ _ hS1 (fun hHeld => ?_)
  clear hK K
  refine norm_ (a' := ?_) ?_ ?_
  rotate_left
  · show Act.put _ (some 72) _ = _
    simp only [Act.put, List.setIfInBounds_toArray, List.set_cons_zero, List.set_cons_succ, i64_w, i32_w]
    rfl
  refine last_ (i := 11) (N := some 78) #[true, true, true, true, true, true, true, true, true, true, true, true, false, false] rfl rfl (by kernel_rfl) (by decide) (fun K hK => ?_)
  refine goes_ Try.func45 (by kernel_rfl) rfl #[.pointer (some ⟨g2, 0, none⟩), .string a, .int .i64 n] (by rfl) rfl rfl (by (try simp only [List.map_toArray, List.map_cons, List.map_nil]); first | done | rfl) ?_
  refine (hnext _ (Below.refl _ _)).mono ?_
  rintro e w3 ⟨rfl, S3, hp3, hst3⟩
  refine ⟨_, rfl, ?_⟩
  have HP3 := Aside0.mk hp3
  have HS3 := Aside0.mk hst3
  clear hp3 hst3 hnext hS1 ho1 hb1 hHeld
  refine hK.out _ _ ?_
  clear hK K
  refine norm_ (a' := ?_) ?_ ?_
  rotate_left
  · show Act.put _ (some 78) _ = _
    simp only [Act.put, List.setIfInBounds_toArray, List.set_cons_zero, List.set_cons_succ, i64_w, i32_w]
    rfl
  refine pure_ (i := 12) (N := some 79) (v := ?_) (a' := ?_) #[true, true, true, true, true, true, true, true, true, true, true, true, true, false] rfl rfl (by kernel_rfl) (fun _ _ _ h => h) (Or.inl ⟨by rfl, ?_⟩) ?_ ?_
  rotate_left
  · intro w'
    go_simp
    with_reducible rfl
  rotate_left
  · simp only [Act.put, List.setIfInBounds_toArray, List.set_cons_zero, List.set_cons_succ, i64_w, i32_w]
    rfl
  refine pure_ (i := 13) (N := some 6) (v := ?_) (a' := ?_) #[true, true, true, true, true, true, true, true, true, true, true, true, true, true] rfl rfl (by kernel_rfl) (fun _ _ _ h => h) (Or.inl ⟨by rfl, ?_⟩) ?_ ?_
  rotate_left
  · intro w'
    go_simp
    with_reducible rfl
  rotate_left
  · simp only [Act.put, List.setIfInBounds_toArray, List.set_cons_zero, List.set_cons_succ, i64_w, i32_w]
    rfl
  refine done_ (by kernel_rfl) ?_
  go_wp2
  go_ret
  exact ⟨rfl, S3, HP3.out, HS3.out.after HB1.out⟩
set_option maxHeartbeats 4000000 in
set_option maxRecDepth 100000 in
theorem Does_4 (p : Pair S w0 W g g2 d m k) (hk : k < 4096) (hC : bK.C w0 A nb xs) (hn : nb ≤ 4294967296) (hx : ∀ y ∈ xs, 0 ≤ y ∧ y ≤ 255) (hn3 : n ≤ 9223372036854775807) : Calls Try.prog 25 #[.pointer (some ⟨g, 0, none⟩), .pointer (some ⟨g2, 0, none⟩), .agg #[.int .i64 4, .string a, .string z, .int .i64 n, .int .i64 kp, .bool tn, .slice A nb c]] W fun e W' => e = .returned (.bool true) ∧ ∃ S', Pair S' w0 W' g g2 (d.rename a z).2 (m.rrename a z).2 (k + 1) ∧ Step S W S' W' := by
  have hb0 : Below W.heap.size W (W.alloc (.cells #[.int .i64 4, .string a, .string z, .int .i64 n, .int .i64 kp, .bool tn, .slice A nb c] 50 (0, 0))) := below_alloc (Below.refl _ _) _
  have hb1 : Below W.heap.size W (W.alloc (.cells #[.int .i64 4, .string a, .string z, .int .i64 n, .int .i64 kp, .bool tn, .slice A nb c] 50 (0, 0))).drew := below_drew1 hb0
  have HB1 := Aside0.mk hb1
  have PB := Aside0.mk (p.below hb0)
  have PD := Aside0.mk (p.below hb1)
  have HBl0 := Aside0.mk (p.below hb1).bel
  have HNs := Aside0.mk (show ¬ S W.heap.size from fun h => Nat.lt_irrefl _ (p.hi _ h))
  have hbx := blk_new W (.cells #[.int .i64 4, .string a, .string z, .int .i64 n, .int .i64 kp, .bool tn, .slice A nb c] 50 (0, 0))
  have k1 : (W.alloc (.cells #[.int .i64 4, .string a, .string z, .int .i64 n, .int .i64 kp, .bool tn, .slice A nb c] 50 (0, 0))).cell? ⟨W.heap.size, 1, none⟩ = some (.string a) := (blk_cell hbx 1).trans rfl
  have k2 : (W.alloc (.cells #[.int .i64 4, .string a, .string z, .int .i64 n, .int .i64 kp, .bool tn, .slice A nb c] 50 (0, 0))).cell? ⟨W.heap.size, 2, none⟩ = some (.string z) := (blk_cell hbx 2).trans rfl
  have k3 : (W.alloc (.cells #[.int .i64 4, .string a, .string z, .int .i64 n, .int .i64 kp, .bool tn, .slice A nb c] 50 (0, 0))).cell? ⟨W.heap.size, 3, none⟩ = some (.int .i64 n) := (blk_cell hbx 3).trans rfl
  have k4 : (W.alloc (.cells #[.int .i64 4, .string a, .string z, .int .i64 n, .int .i64 kp, .bool tn, .slice A nb c] 50 (0, 0))).cell? ⟨W.heap.size, 4, none⟩ = some (.int .i64 kp) := (blk_cell hbx 4).trans rfl
  have k5 : (W.alloc (.cells #[.int .i64 4, .string a, .string z, .int .i64 n, .int .i64 kp, .bool tn, .slice A nb c] 50 (0, 0))).cell? ⟨W.heap.size, 5, none⟩ = some (.bool tn) := (blk_cell hbx 5).trans rfl
  have k6 : (W.alloc (.cells #[.int .i64 4, .string a, .string z, .int .i64 n, .int .i64 kp, .bool tn, .slice A nb c] 50 (0, 0))).cell? ⟨W.heap.size, 6, none⟩ = some (.slice A nb c) := (blk_cell hbx 6).trans rfl
  obtain ⟨sb, hsb⟩ : ∃ s, s = strOfNums xs := ⟨_, rfl⟩
  have HCv := Aside0.mk (show ∀ W', Below w0.heap.size w0 W' → (convert 22 9 (.slice A nb c)).run Try.prog W' = .ok (.string sb) W' from fun W' hb => by rw [hsb]; exact str_C (C_below hC hb))
  have HSb := Aside0.mk hsb
  have HP := Aside0.mk p
  have HC := Aside0.mk hC
  clear hb0 hb1 hbx hsb p
  go_enter Try.func25, Try.ntmps25
  go_wp2
  refine start_ (n := 14) (S := fun w' => w'.cell? ⟨W.heap.size, 1, none⟩ = some (.string a) ∧ w'.cell? ⟨W.heap.size, 2, none⟩ = some (.string z) ∧ w'.cell? ⟨W.heap.size, 3, none⟩ = some (.int .i64 n) ∧ w'.cell? ⟨W.heap.size, 6, none⟩ = some (.slice A nb c) ∧ Below w0.heap.size w0 w') (ds := [11]) #[false, false, false, false, false, false, false, false, false, false, false, false, false, false] (by kernel_rfl) rfl rfl ⟨k1, k2, k3, k6, HBl0.out⟩ (fun hHeld => ?_)
  refine pure_ (i := 0) (N := some 82) (v := ?_) (a' := ?_) #[true, false, false, false, false, false, false, false, false, false, false, false, false, false] rfl rfl (by kernel_rfl) (fun _ _ _ h => h) (Or.inl ⟨by rfl, ?_⟩) ?_ ?_
  rotate_left
  · intro w'
    go_simp
    with_reducible rfl
  rotate_left
  · simp only [Act.put, List.setIfInBounds_toArray, List.set_cons_zero, List.set_cons_succ, i64_w, i32_w]
    rfl
  refine pure_ (i := 1) (N := some 83) (v := ?_) (a' := ?_) #[true, true, false, false, false, false, false, false, false, false, false, false, false, false] rfl rfl (by kernel_rfl) (fun _ _ _ h => h) (Or.inl ⟨by rfl, ?_⟩) ?_ ?_
  rotate_left
  · intro w'
    go_simp
    with_reducible rfl
  rotate_left
  · simp only [Act.put, List.setIfInBounds_toArray, List.set_cons_zero, List.set_cons_succ, i64_w, i32_w]
    rfl
  refine take_ (i := 2) (N := some 84) (v := ?_) (a' := ?_) #[true, true, true, false, false, false, false, false, false, false, false, false, false, false] rfl rfl (by kernel_rfl) (fun _ _ _ h => h) (Or.inl ⟨by rfl, ?_⟩) hHeld ?_ ?_
  rotate_left
  · intro w' s0
    obtain ⟨y1, y2, y3, y6, yb⟩ := s0
    go_simp
    with_reducible rfl
  rotate_left
  · simp only [Act.put, List.setIfInBounds_toArray, List.set_cons_zero, List.set_cons_succ, i64_w, i32_w]
    rfl
  refine pure_ (i := 3) (N := some 85) (v := ?_) (a' := ?_) #[true, true, true, true, false, false, false, false, false, false, false, false, false, false] rfl rfl (by kernel_rfl) (fun _ _ _ h => h) (Or.inl ⟨by rfl, ?_⟩) ?_ ?_
  rotate_left
  · intro w'
    go_simp
    with_reducible rfl
  rotate_left
  · simp only [Act.put, List.setIfInBounds_toArray, List.set_cons_zero, List.set_cons_succ, i64_w, i32_w]
    rfl
  refine take_ (i := 4) (N := some 86) (v := ?_) (a' := ?_) #[true, true, true, true, true, false, false, false, false, false, false, false, false, false] rfl rfl (by kernel_rfl) (fun _ _ _ h => h) (Or.inl ⟨by rfl, ?_⟩) hHeld ?_ ?_
  rotate_left
  · intro w' s0
    obtain ⟨y1, y2, y3, y6, yb⟩ := s0
    go_simp
    with_reducible rfl
  rotate_left
  · simp only [Act.put, List.setIfInBounds_toArray, List.set_cons_zero, List.set_cons_succ, i64_w, i32_w]
    rfl
  refine pure_ (i := 6) (N := some 88) (v := ?_) (a' := ?_) #[true, true, true, true, true, false, true, false, false, false, false, false, false, false] rfl rfl (by kernel_rfl) (fun _ _ _ h => h) (Or.inl ⟨by rfl, ?_⟩) ?_ ?_
  rotate_left
  · intro w'
    go_simp
    with_reducible rfl
  rotate_left
  · simp only [Act.put, List.setIfInBounds_toArray, List.set_cons_zero, List.set_cons_succ, i64_w, i32_w]
    rfl
  refine pure_ (i := 7) (N := some 89) (v := ?_) (a' := ?_) #[true, true, true, true, true, false, true, true, false, false, false, false, false, false] rfl rfl (by kernel_rfl) (fun _ _ _ h => h) (Or.inl ⟨by rfl, ?_⟩) ?_ ?_
  rotate_left
  · intro w'
    go_simp
    with_reducible rfl
  rotate_left
  · simp only [Act.put, List.setIfInBounds_toArray, List.set_cons_zero, List.set_cons_succ, i64_w, i32_w]
    rfl
  refine take_ (i := 8) (N := some 90) (v := ?_) (a' := ?_) #[true, true, true, true, true, false, true, true, true, false, false, false, false, false] rfl rfl (by kernel_rfl) (fun _ _ _ h => h) (Or.inl ⟨by rfl, ?_⟩) hHeld ?_ ?_
  rotate_left
  · intro w' s0
    obtain ⟨y1, y2, y3, y6, yb⟩ := s0
    go_simp
    with_reducible rfl
  rotate_left
  · simp only [Act.put, List.setIfInBounds_toArray, List.set_cons_zero, List.set_cons_succ, i64_w, i32_w]
    rfl
  refine pure_ (i := 9) (N := some 91) (v := ?_) (a' := ?_) #[true, true, true, true, true, false, true, true, true, true, false, false, false, false] rfl rfl (by kernel_rfl) (fun _ _ _ h => h) (Or.inl ⟨by rfl, ?_⟩) ?_ ?_
  rotate_left
  · intro w'
    go_simp
    with_reducible rfl
  rotate_left
  · simp only [Act.put, List.setIfInBounds_toArray, List.set_cons_zero, List.set_cons_succ, i64_w, i32_w]
    rfl
  refine take_ (i := 10) (N := some 92) (v := ?_) (a' := ?_) #[true, true, true, true, true, false, true, true, true, true, true, false, false, false] rfl rfl (by kernel_rfl) (fun _ _ _ h => h) (Or.inl ⟨by rfl, ?_⟩) hHeld ?_ ?_
  rotate_left
  · intro w' s0
    obtain ⟨y1, y2, y3, y6, yb⟩ := s0
    go_simp
    with_reducible rfl
  rotate_left
  · simp only [Act.put, List.setIfInBounds_toArray, List.set_cons_zero, List.set_cons_succ, i64_w, i32_w]
    rfl
  clear hHeld
  refine one_ (i := 5) (N := some 87) #[true, true, true, true, true, true, true, true, true, true, true, false, false, false] rfl rfl (by kernel_rfl) (by decide) (fun K hK => ?_)
  refine goes_ Try.func18 (by kernel_rfl) rfl #[.pointer (some ⟨g, 0, none⟩), .string a, .string z] (by rfl) rfl rfl (by (try simp only [List.map_toArray, List.map_cons, List.map_nil]); first | done | rfl) ?_
  refine (PD.out.rename hk).mono ?_
  rintro e w1 ⟨rfl, hb1, ho1, hnext⟩
  refine ⟨_, rfl, ?_⟩
  have hS1 := And.intro (ho1.cell k1 HNs.out) (And.intro (ho1.cell k2 HNs.out) (And.intro (ho1.cell k3 HNs.out) (And.intro (ho1.cell k6 HNs.out) hb1)))
  refine hK.out _ _ hS1 (fun hHeld => ?_)
  clear hK K
  refine norm_ (a' := ?_) ?_ ?_
  rotate_left
  · show Act.put _ (some 87) _ = _
    simp only [Act.put, List.setIfInBounds_toArray, List.set_cons_zero, List.set_cons_succ, i64_w, i32_w]
    rfl
  refine last_ (i := 11) (N := some 93) #[true, true, true, true, true, true, true, true, true, true, true, true, false, false] rfl rfl (by kernel_rfl) (by decide) (fun K hK => ?_)
  refine goes_ Try.func46 (by kernel_rfl) rfl #[.pointer (some ⟨g2, 0, none⟩), .string a, .string z] (by rfl) rfl rfl (by (try simp only [List.map_toArray, List.map_cons, List.map_nil]); first | done | rfl) ?_
  refine (hnext _ (Below.refl _ _)).mono ?_
  rintro e w3 ⟨rfl, S3, hp3, hst3⟩
  refine ⟨_, rfl, ?_⟩
  have HP3 := Aside0.mk hp3
  have HS3 := Aside0.mk hst3
  clear hp3 hst3 hnext hS1 ho1 hb1 hHeld
  refine hK.out _ _ ?_
  clear hK K
  refine norm_ (a' := ?_) ?_ ?_
  rotate_left
  · show Act.put _ (some 93) _ = _
    simp only [Act.put, List.setIfInBounds_toArray, List.set_cons_zero, List.set_cons_succ, i64_w, i32_w]
    rfl
  refine pure_ (i := 12) (N := some 94) (v := ?_) (a' := ?_) #[true, true, true, true, true, true, true, true, true, true, true, true, true, false] rfl rfl (by kernel_rfl) (fun _ _ _ h => h) (Or.inl ⟨by rfl, ?_⟩) ?_ ?_
  rotate_left
  · intro w'
    go_simp
    with_reducible rfl
  rotate_left
  · simp only [Act.put, List.setIfInBounds_toArray, List.set_cons_zero, List.set_cons_succ, i64_w, i32_w]
    rfl
  refine pure_ (i := 13) (N := some 6) (v := ?_) (a' := ?_) #[true, true, true, true, true, true, true, true, true, true, true, true, true, true] rfl rfl (by kernel_rfl) (fun _ _ _ h => h) (Or.inl ⟨by rfl, ?_⟩) ?_ ?_
  rotate_left
  · intro w'
    go_simp
    with_reducible rfl
  rotate_left
  · simp only [Act.put, List.setIfInBounds_toArray, List.set_cons_zero, List.set_cons_succ, i64_w, i32_w]
    rfl
  refine done_ (by kernel_rfl) ?_
  go_wp2
  go_ret
  exact ⟨rfl, S3, HP3.out, HS3.out.after HB1.out⟩
set_option maxHeartbeats 4000000 in
set_option maxRecDepth 100000 in
theorem Does_5 (p : Pair S w0 W g g2 d m k) (hk : k < 4096) (hC : bK.C w0 A nb xs) (hn : nb ≤ 4294967296) (hx : ∀ y ∈ xs, 0 ≤ y ∧ y ≤ 255) (hn3 : n ≤ 9223372036854775807) : Calls Try.prog 25 #[.pointer (some ⟨g, 0, none⟩), .pointer (some ⟨g2, 0, none⟩), .agg #[.int .i64 5, .string a, .string z, .int .i64 n, .int .i64 kp, .bool tn, .slice A nb c]] W fun e W' => e = .returned (.bool true) ∧ ∃ S', Pair S' w0 W' g g2 (d.remove a).2 (m.remove a).2 (k + 1) ∧ Step S W S' W' := by
  have hb0 : Below W.heap.size W (W.alloc (.cells #[.int .i64 5, .string a, .string z, .int .i64 n, .int .i64 kp, .bool tn, .slice A nb c] 50 (0, 0))) := below_alloc (Below.refl _ _) _
  have hb1 : Below W.heap.size W (W.alloc (.cells #[.int .i64 5, .string a, .string z, .int .i64 n, .int .i64 kp, .bool tn, .slice A nb c] 50 (0, 0))).drew := below_drew1 hb0
  have HB1 := Aside0.mk hb1
  have PB := Aside0.mk (p.below hb0)
  have PD := Aside0.mk (p.below hb1)
  have HBl0 := Aside0.mk (p.below hb1).bel
  have HNs := Aside0.mk (show ¬ S W.heap.size from fun h => Nat.lt_irrefl _ (p.hi _ h))
  have hbx := blk_new W (.cells #[.int .i64 5, .string a, .string z, .int .i64 n, .int .i64 kp, .bool tn, .slice A nb c] 50 (0, 0))
  have k1 : (W.alloc (.cells #[.int .i64 5, .string a, .string z, .int .i64 n, .int .i64 kp, .bool tn, .slice A nb c] 50 (0, 0))).cell? ⟨W.heap.size, 1, none⟩ = some (.string a) := (blk_cell hbx 1).trans rfl
  have k2 : (W.alloc (.cells #[.int .i64 5, .string a, .string z, .int .i64 n, .int .i64 kp, .bool tn, .slice A nb c] 50 (0, 0))).cell? ⟨W.heap.size, 2, none⟩ = some (.string z) := (blk_cell hbx 2).trans rfl
  have k3 : (W.alloc (.cells #[.int .i64 5, .string a, .string z, .int .i64 n, .int .i64 kp, .bool tn, .slice A nb c] 50 (0, 0))).cell? ⟨W.heap.size, 3, none⟩ = some (.int .i64 n) := (blk_cell hbx 3).trans rfl
  have k4 : (W.alloc (.cells #[.int .i64 5, .string a, .string z, .int .i64 n, .int .i64 kp, .bool tn, .slice A nb c] 50 (0, 0))).cell? ⟨W.heap.size, 4, none⟩ = some (.int .i64 kp) := (blk_cell hbx 4).trans rfl
  have k5 : (W.alloc (.cells #[.int .i64 5, .string a, .string z, .int .i64 n, .int .i64 kp, .bool tn, .slice A nb c] 50 (0, 0))).cell? ⟨W.heap.size, 5, none⟩ = some (.bool tn) := (blk_cell hbx 5).trans rfl
  have k6 : (W.alloc (.cells #[.int .i64 5, .string a, .string z, .int .i64 n, .int .i64 kp, .bool tn, .slice A nb c] 50 (0, 0))).cell? ⟨W.heap.size, 6, none⟩ = some (.slice A nb c) := (blk_cell hbx 6).trans rfl
  obtain ⟨sb, hsb⟩ : ∃ s, s = strOfNums xs := ⟨_, rfl⟩
  have HCv := Aside0.mk (show ∀ W', Below w0.heap.size w0 W' → (convert 22 9 (.slice A nb c)).run Try.prog W' = .ok (.string sb) W' from fun W' hb => by rw [hsb]; exact str_C (C_below hC hb))
  have HSb := Aside0.mk hsb
  have HP := Aside0.mk p
  have HC := Aside0.mk hC
  clear hb0 hb1 hbx hsb p
  go_enter Try.func25, Try.ntmps25
  go_wp2
  refine start_ (n := 10) (S := fun w' => w'.cell? ⟨W.heap.size, 1, none⟩ = some (.string a) ∧ w'.cell? ⟨W.heap.size, 2, none⟩ = some (.string z) ∧ w'.cell? ⟨W.heap.size, 3, none⟩ = some (.int .i64 n) ∧ w'.cell? ⟨W.heap.size, 6, none⟩ = some (.slice A nb c) ∧ Below w0.heap.size w0 w') (ds := [7]) #[false, false, false, false, false, false, false, false, false, false] (by kernel_rfl) rfl rfl ⟨k1, k2, k3, k6, HBl0.out⟩ (fun hHeld => ?_)
  refine pure_ (i := 0) (N := some 97) (v := ?_) (a' := ?_) #[true, false, false, false, false, false, false, false, false, false] rfl rfl (by kernel_rfl) (fun _ _ _ h => h) (Or.inl ⟨by rfl, ?_⟩) ?_ ?_
  rotate_left
  · intro w'
    go_simp
    with_reducible rfl
  rotate_left
  · simp only [Act.put, List.setIfInBounds_toArray, List.set_cons_zero, List.set_cons_succ, i64_w, i32_w]
    rfl
  refine pure_ (i := 1) (N := some 98) (v := ?_) (a' := ?_) #[true, true, false, false, false, false, false, false, false, false] rfl rfl (by kernel_rfl) (fun _ _ _ h => h) (Or.inl ⟨by rfl, ?_⟩) ?_ ?_
  rotate_left
  · intro w'
    go_simp
    with_reducible rfl
  rotate_left
  · simp only [Act.put, List.setIfInBounds_toArray, List.set_cons_zero, List.set_cons_succ, i64_w, i32_w]
    rfl
  refine take_ (i := 2) (N := some 99) (v := ?_) (a' := ?_) #[true, true, true, false, false, false, false, false, false, false] rfl rfl (by kernel_rfl) (fun _ _ _ h => h) (Or.inl ⟨by rfl, ?_⟩) hHeld ?_ ?_
  rotate_left
  · intro w' s0
    obtain ⟨y1, y2, y3, y6, yb⟩ := s0
    go_simp
    with_reducible rfl
  rotate_left
  · simp only [Act.put, List.setIfInBounds_toArray, List.set_cons_zero, List.set_cons_succ, i64_w, i32_w]
    rfl
  refine pure_ (i := 4) (N := some 101) (v := ?_) (a' := ?_) #[true, true, true, false, true, false, false, false, false, false] rfl rfl (by kernel_rfl) (fun _ _ _ h => h) (Or.inl ⟨by rfl, ?_⟩) ?_ ?_
  rotate_left
  · intro w'
    go_simp
    with_reducible rfl
  rotate_left
  · simp only [Act.put, List.setIfInBounds_toArray, List.set_cons_zero, List.set_cons_succ, i64_w, i32_w]
    rfl
  refine pure_ (i := 5) (N := some 102) (v := ?_) (a' := ?_) #[true, true, true, false, true, true, false, false, false, false] rfl rfl (by kernel_rfl) (fun _ _ _ h => h) (Or.inl ⟨by rfl, ?_⟩) ?_ ?_
  rotate_left
  · intro w'
    go_simp
    with_reducible rfl
  rotate_left
  · simp only [Act.put, List.setIfInBounds_toArray, List.set_cons_zero, List.set_cons_succ, i64_w, i32_w]
    rfl
  refine take_ (i := 6) (N := some 103) (v := ?_) (a' := ?_) #[true, true, true, false, true, true, true, false, false, false] rfl rfl (by kernel_rfl) (fun _ _ _ h => h) (Or.inl ⟨by rfl, ?_⟩) hHeld ?_ ?_
  rotate_left
  · intro w' s0
    obtain ⟨y1, y2, y3, y6, yb⟩ := s0
    go_simp
    with_reducible rfl
  rotate_left
  · simp only [Act.put, List.setIfInBounds_toArray, List.set_cons_zero, List.set_cons_succ, i64_w, i32_w]
    rfl
  clear hHeld
  refine one_ (i := 3) (N := some 100) #[true, true, true, true, true, true, true, false, false, false] rfl rfl (by kernel_rfl) (by decide) (fun K hK => ?_)
  refine goes_ Try.func20 (by kernel_rfl) rfl #[.pointer (some ⟨g, 0, none⟩), .string a] (by rfl) rfl rfl (by (try simp only [List.map_toArray, List.map_cons, List.map_nil]); first | done | rfl) ?_
  refine (PD.out.remove hk).mono ?_
  rintro e w1 ⟨rfl, hb1, ho1, hnext⟩
  refine ⟨_, rfl, ?_⟩
  have hS1 := And.intro (ho1.cell k1 HNs.out) (And.intro (ho1.cell k2 HNs.out) (And.intro (ho1.cell k3 HNs.out) (And.intro (ho1.cell k6 HNs.out) hb1)))
  refine hK.out _ _ hS1 (fun hHeld => ?_)
  clear hK K
  refine norm_ (a' := ?_) ?_ ?_
  rotate_left
  · show Act.put _ (some 100) _ = _
    simp only [Act.put, List.setIfInBounds_toArray, List.set_cons_zero, List.set_cons_succ, i64_w, i32_w]
    rfl
  refine last_ (i := 7) (N := some 104) #[true, true, true, true, true, true, true, true, false, false] rfl rfl (by kernel_rfl) (by decide) (fun K hK => ?_)
  refine goes_ Try.func47 (by kernel_rfl) rfl #[.pointer (some ⟨g2, 0, none⟩), .string a] (by rfl) rfl rfl (by (try simp only [List.map_toArray, List.map_cons, List.map_nil]); first | done | rfl) ?_
  refine (hnext _ (Below.refl _ _)).mono ?_
  rintro e w3 ⟨rfl, S3, hp3, hst3⟩
  refine ⟨_, rfl, ?_⟩
  have HP3 := Aside0.mk hp3
  have HS3 := Aside0.mk hst3
  clear hp3 hst3 hnext hS1 ho1 hb1 hHeld
  refine hK.out _ _ ?_
  clear hK K
  refine norm_ (a' := ?_) ?_ ?_
  rotate_left
  · show Act.put _ (some 104) _ = _
    simp only [Act.put, List.setIfInBounds_toArray, List.set_cons_zero, List.set_cons_succ, i64_w, i32_w]
    rfl
  refine pure_ (i := 8) (N := some 105) (v := ?_) (a' := ?_) #[true, true, true, true, true, true, true, true, true, false] rfl rfl (by kernel_rfl) (fun _ _ _ h => h) (Or.inl ⟨by rfl, ?_⟩) ?_ ?_
  rotate_left
  · intro w'
    go_simp
    with_reducible rfl
  rotate_left
  · simp only [Act.put, List.setIfInBounds_toArray, List.set_cons_zero, List.set_cons_succ, i64_w, i32_w]
    rfl
  refine pure_ (i := 9) (N := some 6) (v := ?_) (a' := ?_) #[true, true, true, true, true, true, true, true, true, true] rfl rfl (by kernel_rfl) (fun _ _ _ h => h) (Or.inl ⟨by rfl, ?_⟩) ?_ ?_
  rotate_left
  · intro w'
    go_simp
    with_reducible rfl
  rotate_left
  · simp only [Act.put, List.setIfInBounds_toArray, List.set_cons_zero, List.set_cons_succ, i64_w, i32_w]
    rfl
  refine done_ (by kernel_rfl) ?_
  go_wp2
  go_ret
  exact ⟨rfl, S3, HP3.out, HS3.out.after HB1.out⟩
set_option maxHeartbeats 4000000 in
set_option maxRecDepth 100000 in
theorem Does_6 (p : Pair S w0 W g g2 d m k) (hk : k < 4096) (hC : bK.C w0 A nb xs) (hn : nb ≤ 4294967296) (hx : ∀ y ∈ xs, 0 ≤ y ∧ y ≤ 255) (hn3 : n ≤ 9223372036854775807) : Calls Try.prog 25 #[.pointer (some ⟨g, 0, none⟩), .pointer (some ⟨g2, 0, none⟩), .agg #[.int .i64 6, .string a, .string z, .int .i64 n, .int .i64 kp, .bool tn, .slice A nb c]] W fun e W' => e = .returned (.bool true) ∧ ∃ S', Pair S' w0 W' g g2 (d.off n tn) (m.off n tn) (k + 1) ∧ Step S W S' W' := by
  have hb0 : Below W.heap.size W (W.alloc (.cells #[.int .i64 6, .string a, .string z, .int .i64 n, .int .i64 kp, .bool tn, .slice A nb c] 50 (0, 0))) := below_alloc (Below.refl _ _) _
  have hb1 : Below W.heap.size W (W.alloc (.cells #[.int .i64 6, .string a, .string z, .int .i64 n, .int .i64 kp, .bool tn, .slice A nb c] 50 (0, 0))).drew := below_drew1 hb0
  have HB1 := Aside0.mk hb1
  have PB := Aside0.mk (p.below hb0)
  have PD := Aside0.mk (p.below hb1)
  have HBl0 := Aside0.mk (p.below hb1).bel
  have HNs := Aside0.mk (show ¬ S W.heap.size from fun h => Nat.lt_irrefl _ (p.hi _ h))
  have hbx := blk_new W (.cells #[.int .i64 6, .string a, .string z, .int .i64 n, .int .i64 kp, .bool tn, .slice A nb c] 50 (0, 0))
  have k1 : (W.alloc (.cells #[.int .i64 6, .string a, .string z, .int .i64 n, .int .i64 kp, .bool tn, .slice A nb c] 50 (0, 0))).cell? ⟨W.heap.size, 1, none⟩ = some (.string a) := (blk_cell hbx 1).trans rfl
  have k2 : (W.alloc (.cells #[.int .i64 6, .string a, .string z, .int .i64 n, .int .i64 kp, .bool tn, .slice A nb c] 50 (0, 0))).cell? ⟨W.heap.size, 2, none⟩ = some (.string z) := (blk_cell hbx 2).trans rfl
  have k3 : (W.alloc (.cells #[.int .i64 6, .string a, .string z, .int .i64 n, .int .i64 kp, .bool tn, .slice A nb c] 50 (0, 0))).cell? ⟨W.heap.size, 3, none⟩ = some (.int .i64 n) := (blk_cell hbx 3).trans rfl
  have k4 : (W.alloc (.cells #[.int .i64 6, .string a, .string z, .int .i64 n, .int .i64 kp, .bool tn, .slice A nb c] 50 (0, 0))).cell? ⟨W.heap.size, 4, none⟩ = some (.int .i64 kp) := (blk_cell hbx 4).trans rfl
  have k5 : (W.alloc (.cells #[.int .i64 6, .string a, .string z, .int .i64 n, .int .i64 kp, .bool tn, .slice A nb c] 50 (0, 0))).cell? ⟨W.heap.size, 5, none⟩ = some (.bool tn) := (blk_cell hbx 5).trans rfl
  have k6 : (W.alloc (.cells #[.int .i64 6, .string a, .string z, .int .i64 n, .int .i64 kp, .bool tn, .slice A nb c] 50 (0, 0))).cell? ⟨W.heap.size, 6, none⟩ = some (.slice A nb c) := (blk_cell hbx 6).trans rfl
  obtain ⟨sb, hsb⟩ : ∃ s, s = strOfNums xs := ⟨_, rfl⟩
  have HCv := Aside0.mk (show ∀ W', Below w0.heap.size w0 W' → (convert 22 9 (.slice A nb c)).run Try.prog W' = .ok (.string sb) W' from fun W' hb => by rw [hsb]; exact str_C (C_below hC hb))
  have HSb := Aside0.mk hsb
  have HP := Aside0.mk p
  have HC := Aside0.mk hC
  clear hb0 hb1 hbx hsb p
  go_enter Try.func25, Try.ntmps25
  go_wp2_with (first
    | (go_at_call 16; refine (PB.out.off hk).mono ?_; rintro e w1 ⟨rfl, hb1, ho1, hnext⟩; have j3 := ho1.cell k3 HNs.out; have j4 := ho1.cell k4 HNs.out; have j5 := ho1.cell k5 HNs.out; have HNx := Aside0.mk hnext; clear hnext ho1 hb1 PB)
    | (go_at_call 48; refine (HNx.out _ (Below.refl _ _)).mono ?_; rintro e w3 ⟨rfl, S3, hp3, hst3⟩; have HP3 := Aside0.mk hp3; have HS3 := Aside0.mk hst3; clear hp3 hst3 HNx))
  go_ret
  exact ⟨rfl, S3, HP3.out, HS3.out.after (below_alloc (Below.refl _ _) _)⟩
set_option maxHeartbeats 4000000 in
set_option maxRecDepth 100000 in
theorem Does_8 (p : Pair S w0 W g g2 d m k) (hk : k < 4096) (hC : bK.C w0 A nb xs) (hn : nb ≤ 4294967296) (hx : ∀ y ∈ xs, 0 ≤ y ∧ y ≤ 255) (hn3 : n ≤ 9223372036854775807) : Calls Try.prog 25 #[.pointer (some ⟨g, 0, none⟩), .pointer (some ⟨g2, 0, none⟩), .agg #[.int .i64 8, .string a, .string z, .int .i64 n, .int .i64 kp, .bool tn, .slice A nb c]] W fun e W' => e = .returned (.bool true) ∧ ∃ S', Pair S' w0 W' g g2 (d.arm n kp tn) (m.arm n kp tn) (k + 1) ∧ Step S W S' W' := by
  have hb0 : Below W.heap.size W (W.alloc (.cells #[.int .i64 8, .string a, .string z, .int .i64 n, .int .i64 kp, .bool tn, .slice A nb c] 50 (0, 0))) := below_alloc (Below.refl _ _) _
  have hb1 : Below W.heap.size W (W.alloc (.cells #[.int .i64 8, .string a, .string z, .int .i64 n, .int .i64 kp, .bool tn, .slice A nb c] 50 (0, 0))).drew := below_drew1 hb0
  have HB1 := Aside0.mk hb1
  have PB := Aside0.mk (p.below hb0)
  have PD := Aside0.mk (p.below hb1)
  have HBl0 := Aside0.mk (p.below hb1).bel
  have HNs := Aside0.mk (show ¬ S W.heap.size from fun h => Nat.lt_irrefl _ (p.hi _ h))
  have hbx := blk_new W (.cells #[.int .i64 8, .string a, .string z, .int .i64 n, .int .i64 kp, .bool tn, .slice A nb c] 50 (0, 0))
  have k1 : (W.alloc (.cells #[.int .i64 8, .string a, .string z, .int .i64 n, .int .i64 kp, .bool tn, .slice A nb c] 50 (0, 0))).cell? ⟨W.heap.size, 1, none⟩ = some (.string a) := (blk_cell hbx 1).trans rfl
  have k2 : (W.alloc (.cells #[.int .i64 8, .string a, .string z, .int .i64 n, .int .i64 kp, .bool tn, .slice A nb c] 50 (0, 0))).cell? ⟨W.heap.size, 2, none⟩ = some (.string z) := (blk_cell hbx 2).trans rfl
  have k3 : (W.alloc (.cells #[.int .i64 8, .string a, .string z, .int .i64 n, .int .i64 kp, .bool tn, .slice A nb c] 50 (0, 0))).cell? ⟨W.heap.size, 3, none⟩ = some (.int .i64 n) := (blk_cell hbx 3).trans rfl
  have k4 : (W.alloc (.cells #[.int .i64 8, .string a, .string z, .int .i64 n, .int .i64 kp, .bool tn, .slice A nb c] 50 (0, 0))).cell? ⟨W.heap.size, 4, none⟩ = some (.int .i64 kp) := (blk_cell hbx 4).trans rfl
  have k5 : (W.alloc (.cells #[.int .i64 8, .string a, .string z, .int .i64 n, .int .i64 kp, .bool tn, .slice A nb c] 50 (0, 0))).cell? ⟨W.heap.size, 5, none⟩ = some (.bool tn) := (blk_cell hbx 5).trans rfl
  have k6 : (W.alloc (.cells #[.int .i64 8, .string a, .string z, .int .i64 n, .int .i64 kp, .bool tn, .slice A nb c] 50 (0, 0))).cell? ⟨W.heap.size, 6, none⟩ = some (.slice A nb c) := (blk_cell hbx 6).trans rfl
  obtain ⟨sb, hsb⟩ : ∃ s, s = strOfNums xs := ⟨_, rfl⟩
  have HCv := Aside0.mk (show ∀ W', Below w0.heap.size w0 W' → (convert 22 9 (.slice A nb c)).run Try.prog W' = .ok (.string sb) W' from fun W' hb => by rw [hsb]; exact str_C (C_below hC hb))
  have HSb := Aside0.mk hsb
  have HP := Aside0.mk p
  have HC := Aside0.mk hC
  clear hb0 hb1 hbx hsb p
  go_enter Try.func25, Try.ntmps25
  go_wp2_with (first
    | (go_at_call 14; refine (PB.out.arm hn3).mono ?_; rintro e w1 ⟨rfl, hb1, ho1, hnext⟩; have j3 := ho1.cell k3 HNs.out; have j4 := ho1.cell k4 HNs.out; have j5 := ho1.cell k5 HNs.out; have HNx := Aside0.mk hnext; clear hnext ho1 hb1 PB)
    | (go_at_call 49; refine (HNx.out _ (Below.refl _ _)).mono ?_; rintro e w3 ⟨rfl, S3, hp3, hst3⟩; have HP3 := Aside0.mk hp3; have HS3 := Aside0.mk hst3; clear hp3 hst3 HNx))
  go_ret
  exact ⟨rfl, S3, HP3.out, HS3.out.after (below_alloc (Below.refl _ _) _)⟩
set_option maxHeartbeats 4000000 in
set_option maxRecDepth 100000 in
theorem Does_7 (p : Pair S w0 W g g2 d m k) (hk : k < 4096) (hC : bK.C w0 A nb xs) (hn : nb ≤ 4294967296) (hx : ∀ y ∈ xs, 0 ≤ y ∧ y ≤ 255) (hn3 : n ≤ 9223372036854775807) : Calls Try.prog 25 #[.pointer (some ⟨g, 0, none⟩), .pointer (some ⟨g2, 0, none⟩), .agg #[.int .i64 7, .string a, .string z, .int .i64 n, .int .i64 kp, .bool tn, .slice A nb c]] W fun e W' => e = .returned (.bool true) ∧ ∃ S', Pair S' w0 W' g g2 d.on m.on (k + 1) ∧ Step S W S' W' := by
  have hb0 : Below W.heap.size W (W.alloc (.cells #[.int .i64 7, .string a, .string z, .int .i64 n, .int .i64 kp, .bool tn, .slice A nb c] 50 (0, 0))) := below_alloc (Below.refl _ _) _
  have hb1 : Below W.heap.size W (W.alloc (.cells #[.int .i64 7, .string a, .string z, .int .i64 n, .int .i64 kp, .bool tn, .slice A nb c] 50 (0, 0))).drew := below_drew1 hb0
  have HB1 := Aside0.mk hb1
  have PB := Aside0.mk (p.below hb0)
  have PD := Aside0.mk (p.below hb1)
  have HBl0 := Aside0.mk (p.below hb1).bel
  have HNs := Aside0.mk (show ¬ S W.heap.size from fun h => Nat.lt_irrefl _ (p.hi _ h))
  have hbx := blk_new W (.cells #[.int .i64 7, .string a, .string z, .int .i64 n, .int .i64 kp, .bool tn, .slice A nb c] 50 (0, 0))
  have k1 : (W.alloc (.cells #[.int .i64 7, .string a, .string z, .int .i64 n, .int .i64 kp, .bool tn, .slice A nb c] 50 (0, 0))).cell? ⟨W.heap.size, 1, none⟩ = some (.string a) := (blk_cell hbx 1).trans rfl
  have k2 : (W.alloc (.cells #[.int .i64 7, .string a, .string z, .int .i64 n, .int .i64 kp, .bool tn, .slice A nb c] 50 (0, 0))).cell? ⟨W.heap.size, 2, none⟩ = some (.string z) := (blk_cell hbx 2).trans rfl
  have k3 : (W.alloc (.cells #[.int .i64 7, .string a, .string z, .int .i64 n, .int .i64 kp, .bool tn, .slice A nb c] 50 (0, 0))).cell? ⟨W.heap.size, 3, none⟩ = some (.int .i64 n) := (blk_cell hbx 3).trans rfl
  have k4 : (W.alloc (.cells #[.int .i64 7, .string a, .string z, .int .i64 n, .int .i64 kp, .bool tn, .slice A nb c] 50 (0, 0))).cell? ⟨W.heap.size, 4, none⟩ = some (.int .i64 kp) := (blk_cell hbx 4).trans rfl
  have k5 : (W.alloc (.cells #[.int .i64 7, .string a, .string z, .int .i64 n, .int .i64 kp, .bool tn, .slice A nb c] 50 (0, 0))).cell? ⟨W.heap.size, 5, none⟩ = some (.bool tn) := (blk_cell hbx 5).trans rfl
  have k6 : (W.alloc (.cells #[.int .i64 7, .string a, .string z, .int .i64 n, .int .i64 kp, .bool tn, .slice A nb c] 50 (0, 0))).cell? ⟨W.heap.size, 6, none⟩ = some (.slice A nb c) := (blk_cell hbx 6).trans rfl
  obtain ⟨sb, hsb⟩ : ∃ s, s = strOfNums xs := ⟨_, rfl⟩
  have HCv := Aside0.mk (show ∀ W', Below w0.heap.size w0 W' → (convert 22 9 (.slice A nb c)).run Try.prog W' = .ok (.string sb) W' from fun W' hb => by rw [hsb]; exact str_C (C_below hC hb))
  have HSb := Aside0.mk hsb
  have HP := Aside0.mk p
  have HC := Aside0.mk hC
  clear hb0 hb1 hbx hsb p
  go_enter Try.func25, Try.ntmps25
  go_wp2_with (first
    | (go_at_call 17; refine PB.out.on_.mono ?_; rintro e w1 ⟨rfl, hb1, j2, jf, S3, hp3, hst3⟩; have HP3 := Aside0.mk hp3; have HS3 := Aside0.mk hst3; clear hp3 hst3 PB hb1))
  go_ret
  exact ⟨rfl, S3, HP3.out, HS3.out.after (below_alloc (Below.refl _ _) _)⟩
theorem Pair.read_ {s : ByteArray} {S : Nat → Prop} {W w0 : World} {g g2 : Nat} {d m : DS} {k : Int} (p : Pair S w0 W g g2 d m k) : Calls Try.prog 13 #[.pointer (some ⟨g, 0, none⟩), .string s] W fun e W' => ∃ A n c, e = .returned (.tuple #[.slice A n c, .int .i64 (d.read s).2]) ∧ bK.C W' A n (d.read s).1 ∧ Below W.heap.size W W' := by
  obtain ⟨S1, S2, h1, h2, _, _⟩ := p.ex
  refine (Read_D h1 p.up (xs := (d.read s).1) (r := (d.read s).2) rfl).mono ?_
  rintro e W' ⟨A, c, rfl, hr, _, hb⟩
  exact ⟨A, _, c, rfl, (Kd.R_reads' hr).2.2, hb⟩
theorem Pair.rread_ {s : ByteArray} {S : Nat → Prop} {W w0 : World} {g g2 : Nat} {d m : DS} {k : Int} (p : Pair S w0 W g g2 d m k) (hk : k < 4096) : Calls Try.prog 31 #[.pointer (some ⟨g2, 0, none⟩), .string s] W fun e W' => e = .returned (.tuple #[.string (strOfNums (d.read s).1), .int .i64 (d.read s).2]) ∧ Below W.heap.size W W' := by
  obtain ⟨S1, S2, h1, h2, _, _⟩ := p.ex
  obtain ⟨v, hv⟩ := h2.at_
  have h := RRead_Q hv (p.tw.rg p.up (Int.le_of_lt hk)) s
  rw [p.tw.read] at h
  exact h
set_option maxHeartbeats 4000000 in
set_option maxRecDepth 100000 in
theorem Does_1 (p : Pair S w0 W g g2 d m k) (hk : k < 4096) (hC : bK.C w0 A nb xs) (hn : nb ≤ 4294967296) (hx : ∀ y ∈ xs, 0 ≤ y ∧ y ≤ 255) (hn3 : n ≤ 9223372036854775807) : Calls Try.prog 25 #[.pointer (some ⟨g, 0, none⟩), .pointer (some ⟨g2, 0, none⟩), .agg #[.int .i64 1, .string a, .string z, .int .i64 n, .int .i64 kp, .bool tn, .slice A nb c]] W fun e W' => e = .returned (.bool true) ∧ ∃ S', Pair S' w0 W' g g2 d m (k + 1) ∧ Step S W S' W' := by
  have hb0 : Below W.heap.size W (W.alloc (.cells #[.int .i64 1, .string a, .string z, .int .i64 n, .int .i64 kp, .bool tn, .slice A nb c] 50 (0, 0))) := below_alloc (Below.refl _ _) _
  have hb1 : Below W.heap.size W (W.alloc (.cells #[.int .i64 1, .string a, .string z, .int .i64 n, .int .i64 kp, .bool tn, .slice A nb c] 50 (0, 0))).drew := below_drew1 hb0
  have HB1 := Aside0.mk hb1
  have PB := Aside0.mk (p.below hb0)
  have PD := Aside0.mk (p.below hb1)
  have HBl0 := Aside0.mk (p.below hb1).bel
  have HNs := Aside0.mk (show ¬ S W.heap.size from fun h => Nat.lt_irrefl _ (p.hi _ h))
  have hbx := blk_new W (.cells #[.int .i64 1, .string a, .string z, .int .i64 n, .int .i64 kp, .bool tn, .slice A nb c] 50 (0, 0))
  have k1 : (W.alloc (.cells #[.int .i64 1, .string a, .string z, .int .i64 n, .int .i64 kp, .bool tn, .slice A nb c] 50 (0, 0))).cell? ⟨W.heap.size, 1, none⟩ = some (.string a) := (blk_cell hbx 1).trans rfl
  have k2 : (W.alloc (.cells #[.int .i64 1, .string a, .string z, .int .i64 n, .int .i64 kp, .bool tn, .slice A nb c] 50 (0, 0))).cell? ⟨W.heap.size, 2, none⟩ = some (.string z) := (blk_cell hbx 2).trans rfl
  have k3 : (W.alloc (.cells #[.int .i64 1, .string a, .string z, .int .i64 n, .int .i64 kp, .bool tn, .slice A nb c] 50 (0, 0))).cell? ⟨W.heap.size, 3, none⟩ = some (.int .i64 n) := (blk_cell hbx 3).trans rfl
  have k4 : (W.alloc (.cells #[.int .i64 1, .string a, .string z, .int .i64 n, .int .i64 kp, .bool tn, .slice A nb c] 50 (0, 0))).cell? ⟨W.heap.size, 4, none⟩ = some (.int .i64 kp) := (blk_cell hbx 4).trans rfl
  have k5 : (W.alloc (.cells #[.int .i64 1, .string a, .string z, .int .i64 n, .int .i64 kp, .bool tn, .slice A nb c] 50 (0, 0))).cell? ⟨W.heap.size, 5, none⟩ = some (.bool tn) := (blk_cell hbx 5).trans rfl
  have k6 : (W.alloc (.cells #[.int .i64 1, .string a, .string z, .int .i64 n, .int .i64 kp, .bool tn, .slice A nb c] 50 (0, 0))).cell? ⟨W.heap.size, 6, none⟩ = some (.slice A nb c) := (blk_cell hbx 6).trans rfl
  obtain ⟨sb, hsb⟩ : ∃ s, s = strOfNums xs := ⟨_, rfl⟩
  have HCv := Aside0.mk (show ∀ W', Below w0.heap.size w0 W' → (convert 22 9 (.slice A nb c)).run Try.prog W' = .ok (.string sb) W' from fun W' hb => by rw [hsb]; exact str_C (C_below hC hb))
  have HSb := Aside0.mk hsb
  have HP := Aside0.mk p
  have HC := Aside0.mk hC
  clear hb0 hb1 hbx hsb p
  go_enter Try.func25, Try.ntmps25
  go_wp2_with (first
    | (go_at_call 13; refine (PB.out.read_).mono ?_; rintro e w1 ⟨A1, n1, c1, rfl, hC1, hb1⟩; have j1 := pw_cell_below hb1 k1; have HC1 := Aside0.mk hC1; have P1 := Aside0.mk (PB.out.below hb1); have HBe := Aside0.mk hb1; clear hC1 hb1 PB)
    | (go_at_call 31; refine (P1.out.rread_ hk).mono ?_; rintro e w3 ⟨rfl, hb3⟩; have HP3 := Aside0.mk (P1.out.below hb3); have HB3 := Aside0.mk (HBe.out.trans (hb3.mono HBe.out.size)); have hcv := str_C (c := c1) (C_below HC1.out hb3); clear hb3 P1))
  go_ret
  exact ⟨by simp, S, HP3.out.more (by omega), Step.same ((below_alloc (Below.refl _ _) _).trans (HB3.out.mono (by simp)))⟩
set_option maxHeartbeats 4000000 in
set_option maxRecDepth 100000 in
theorem Does_9 {kd : Int} (h0 : (kd == 0) = false) (h1 : (kd == 1) = false) (h2 : (kd == 2) = false) (h3 : (kd == 3) = false) (h4 : (kd == 4) = false) (h5 : (kd == 5) = false) (h6 : (kd == 6) = false) (h7 : (kd == 7) = false) (h8 : (kd == 8) = false) (p : Pair S w0 W g g2 d m k) (hk : k < 4096) (hC : bK.C w0 A nb xs) (hn : nb ≤ 4294967296) (hx : ∀ y ∈ xs, 0 ≤ y ∧ y ≤ 255) (hn3 : n ≤ 9223372036854775807) : Calls Try.prog 25 #[.pointer (some ⟨g, 0, none⟩), .pointer (some ⟨g2, 0, none⟩), .agg #[.int .i64 kd, .string a, .string z, .int .i64 n, .int .i64 kp, .bool tn, .slice A nb c]] W fun e W' => e = .returned (.bool true) ∧ ∃ S', Pair S' w0 W' g g2 d m (k + 1) ∧ Step S W S' W' := by
  have hb0 : Below W.heap.size W (W.alloc (.cells #[.int .i64 kd, .string a, .string z, .int .i64 n, .int .i64 kp, .bool tn, .slice A nb c] 50 (0, 0))) := below_alloc (Below.refl _ _) _
  have hb1 : Below W.heap.size W (W.alloc (.cells #[.int .i64 kd, .string a, .string z, .int .i64 n, .int .i64 kp, .bool tn, .slice A nb c] 50 (0, 0))).drew := below_drew1 hb0
  have HB1 := Aside0.mk hb1
  have PB := Aside0.mk (p.below hb0)
  have PD := Aside0.mk (p.below hb1)
  have HBl0 := Aside0.mk (p.below hb1).bel
  have HNs := Aside0.mk (show ¬ S W.heap.size from fun h => Nat.lt_irrefl _ (p.hi _ h))
  have hbx := blk_new W (.cells #[.int .i64 kd, .string a, .string z, .int .i64 n, .int .i64 kp, .bool tn, .slice A nb c] 50 (0, 0))
  have k1 : (W.alloc (.cells #[.int .i64 kd, .string a, .string z, .int .i64 n, .int .i64 kp, .bool tn, .slice A nb c] 50 (0, 0))).cell? ⟨W.heap.size, 1, none⟩ = some (.string a) := (blk_cell hbx 1).trans rfl
  have k2 : (W.alloc (.cells #[.int .i64 kd, .string a, .string z, .int .i64 n, .int .i64 kp, .bool tn, .slice A nb c] 50 (0, 0))).cell? ⟨W.heap.size, 2, none⟩ = some (.string z) := (blk_cell hbx 2).trans rfl
  have k3 : (W.alloc (.cells #[.int .i64 kd, .string a, .string z, .int .i64 n, .int .i64 kp, .bool tn, .slice A nb c] 50 (0, 0))).cell? ⟨W.heap.size, 3, none⟩ = some (.int .i64 n) := (blk_cell hbx 3).trans rfl
  have k4 : (W.alloc (.cells #[.int .i64 kd, .string a, .string z, .int .i64 n, .int .i64 kp, .bool tn, .slice A nb c] 50 (0, 0))).cell? ⟨W.heap.size, 4, none⟩ = some (.int .i64 kp) := (blk_cell hbx 4).trans rfl
  have k5 : (W.alloc (.cells #[.int .i64 kd, .string a, .string z, .int .i64 n, .int .i64 kp, .bool tn, .slice A nb c] 50 (0, 0))).cell? ⟨W.heap.size, 5, none⟩ = some (.bool tn) := (blk_cell hbx 5).trans rfl
  have k6 : (W.alloc (.cells #[.int .i64 kd, .string a, .string z, .int .i64 n, .int .i64 kp, .bool tn, .slice A nb c] 50 (0, 0))).cell? ⟨W.heap.size, 6, none⟩ = some (.slice A nb c) := (blk_cell hbx 6).trans rfl
  obtain ⟨sb, hsb⟩ : ∃ s, s = strOfNums xs := ⟨_, rfl⟩
  have HCv := Aside0.mk (show ∀ W', Below w0.heap.size w0 W' → (convert 22 9 (.slice A nb c)).run Try.prog W' = .ok (.string sb) W' from fun W' hb => by rw [hsb]; exact str_C (C_below hC hb))
  have HSb := Aside0.mk hsb
  have HP := Aside0.mk p
  have HC := Aside0.mk hC
  clear hb0 hb1 hbx hsb p
  go_enter Try.func25, Try.ntmps25
  go_wp2
  go_ret
  exact ⟨rfl, S, PB.out.more (by omega), Step.same (below_alloc (Below.refl _ _) _)⟩
end
end Go.Proofs.Ytoedkemjidgbeaa.Dk
