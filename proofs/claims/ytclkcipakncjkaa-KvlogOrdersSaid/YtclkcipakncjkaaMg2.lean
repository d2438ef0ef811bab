/- Joined texts of this claim, in build order. -/
import Derived.Test.YtclkcipakncjkaaMg1
/- One file on a device; alive; KvlogOrders. -/
namespace Go.Proofs.Ytclkcipakncjkaa.Kv
open Go Go.RowKit Go.Proofs.YtclkcipakncjkaaW.PrintWords Go.Proofs.YtclkcipakncjkaaW.PrintLast Go.Proofs.YtclkcipakncjkaaW.PrintMore Go.Proofs.YtclkcipakncjkaaMy Go.Proofs.Ytclkcipakncjkaa Go.Proofs.YtclkcipakncjkaaPw Go.Proofs.Ytclkcipakncjkaa.PAll Go.Proofs.Ytclkcipakncjkaa.Dk
set_option linter.unusedVariables false
set_option linter.unusedSimpArgs false
def kN : ByteArray := ⟨#[107]⟩
/-- A device that is on, without a fuse, with one file at most, of at most c bytes. -/
structure One (d : DS) (n : ByteArray) (R : Int) (c : Nat) : Prop where
  down : d.down = false
  fuse : d.fuse = 0
  room : d.room = R
  file : d.files = [] ∨ ∃ b s, d.files = [⟨n, b, s⟩] ∧ b.length ≤ c
theorem One.new_ (n : ByteArray) {R : Int} (h : 0 ≤ R ∧ R ≤ 1048576) : One (new R) n R 0 := ⟨rfl, rfl, by show min (max R 0) 1048576 = R; omega, .inl rfl⟩
theorem One.append {d : DS} {n : ByteArray} {R : Int} {c : Nat} (h : One d n R c) (hn : nameOk n = true) {X : List Int} (hX : (c + X.length : Nat) ≤ R) : (d.append n X).1 = 0 ∧ One (d.append n X).2 n R (c + X.length) := by
  have hr : d.ready n = 0 := by
    unfold DS.ready
    rw [h.down, if_neg (by decide), if_pos hn]
  have hg : d.goes = false := by
    unfold DS.goes
    rw [h.fuse]
    rfl
  have hfree : ¬ (X.length : Int) > d.free := by
    unfold DS.free
    rw [h.room]
    rcases h.file with e | ⟨b, s, e, hb⟩
    · rw [e]
      show ¬ (X.length : Int) > R - 0
      omega
    · rw [e]
      show ¬ (X.length : Int) > R - ((b.length : Int) + 0)
      omega
  unfold DS.append
  rw [if_neg (fun h => h hr), if_neg hfree]
  simp only [hg]
  refine ⟨rfl, h.down, ?_, h.room, .inr ?_⟩
  · show (if d.fuse = 0 then (0 : Int) else d.fuse - 1) = 0
    rw [if_pos h.fuse]
  · rcases h.file with e | ⟨b, s, e, hb⟩
    · refine ⟨X, 0, ?_, by omega⟩
      show putF d.files _ = _
      unfold DS.fileOr findF
      rw [e]
      rfl
    · refine ⟨b ++ X, s, ?_, by rw [List.length_append]; omega⟩
      show putF d.files _ = _
      have hf : d.fileOr n = ⟨n, b, s⟩ := by
        unfold DS.fileOr findF
        rw [e, List.find?_cons_of_pos (by simp)]
        rfl
      rw [hf, e]
      unfold putF
      rw [if_pos rfl]
theorem gones_bytes {l : List E} {c : Nat} (h : ∀ e ∈ l, e.f0.size ≤ c) : ∀ r ∈ gones l 1, r.size ≤ 28 + c := by
  intro r hr
  obtain ⟨x, hx, rfl⟩ := List.mem_map.1 hr
  obtain ⟨y, hy, rfl⟩ := List.mem_map.1 hx
  rw [recG_size]
  have := h y (List.mem_of_mem_take hy)
  omega
theorem sizes_append (a b : List ByteArray) : Fr.sizes (a ++ b) = Fr.sizes a + Fr.sizes b := by
  induction a with
  | nil => simp [Fr.sizes]
  | cons x a ih => simp only [List.cons_append, Fr.sizes, ih]; omega
theorem putRecs_bytes {l : List E} {m : Int} {k u : ByteArray} {c : Nat} (hl : (l.length : Int) ≤ m) (hm : 1 ≤ m) (h : ∀ e ∈ l, e.f0.size ≤ c) (hc : c ≤ 65501) (hok : (recP k u).size ≤ 65536) : (Fr.putB (putRecs l m k u)).length ≤ 79 + c + k.size + u.size := by
  have hg := Good.of_put (m := m) hok (fun e he => Nat.le_trans (h e he) hc)
  rw [Fr.putB_length (fun s hs => (hg s hs).size)]
  unfold putRecs
  split
  · simp only [List.nil_append, List.length_singleton, Fr.sizes, recP_size]
    omega
  · have hov : over l m = 0 ∨ over l m = 1 := by unfold over; omega
    rcases hov with e | e
    · rw [e]
      show 8 * ([] ++ [recP k u] : List ByteArray).length + Fr.sizes ([] ++ [recP k u]) ≤ _
      simp only [List.nil_append, List.length_singleton, Fr.sizes, recP_size]
      omega
    · rw [e, List.length_append, sizes_append, List.length_singleton, gones_length]
      have h1 := sizes_le (gones_bytes h)
      rw [gones_length] at h1
      simp only [Fr.sizes, recP_size]
      have h2 : min 1 l.length ≤ 1 := Nat.min_le_left _ _
      have h3 : min 1 l.length * (28 + c) ≤ 1 * (28 + c) := Nat.mul_le_mul_right _ h2
      omega
theorem putE_ok {d : DS} {n : ByteArray} {R : Int} {c q : Nat} {m : Int} {l : List E} {k u : ByteArray} (h : One d n R c) (hn : nameOk n = true) (hl : (l.length : Int) ≤ m) (hm : 1 ≤ m) (hk : ∀ e ∈ l, e.f0.size ≤ q) (hq : q ≤ 65501) (hok : (recP k u).size ≤ 65536) (hX : (c + (79 + q + k.size + u.size) : Nat) ≤ R) {j : Int} (hu : d.Up j) :
    ∃ d', putE d n m l k u = (0, d', if getE l k = some u then l else putL l m k u) ∧ One d' n R (c + (79 + q + k.size + u.size)) ∧ d'.Up (j + 1) := by
  have hb := putRecs_bytes hl hm hk hq hok
  have hsh : Short l := fun e he => Nat.le_trans (hk e he) hq
  unfold putE
  rw [if_neg (by omega)]
  by_cases e : getE l k = some u
  · rw [if_pos e, if_pos e]
    refine ⟨d, rfl, ⟨h.down, h.fuse, h.room, ?_⟩, hu.more⟩
    rcases h.file with e | ⟨b, s, e, hb⟩
    · exact .inl e
    · exact .inr ⟨b, s, e, by omega⟩
  · rw [if_neg e, if_neg e]
    obtain ⟨h1, h2⟩ := h.append hn (X := Fr.putB (putRecs l m k u)) (by omega)
    unfold writeE
    rw [if_pos h1, stepAll_put hsh hm hok, h1]
    refine ⟨_, rfl, ⟨h2.down, h2.fuse, h2.room, ?_⟩, hu.append n (fun x hx => by have := Fr.byt_putB _ x hx; omega)⟩
    rcases h2.file with e | ⟨b, s, e, hb⟩
    · exact .inl e
    · exact .inr ⟨b, s, e, by omega⟩
theorem kN_ok : nameOk kN = true := by kernel_rfl
theorem new_rem {R : Int} : (new R).remove (draftN kN) = (5, new R) := by
  have ht : (new R).there (draftN kN) = 5 := by
    unfold DS.there
    rw [if_neg (by show ¬ (new R).ready (draftN kN) ≠ 0; unfold DS.ready; rw [if_neg (by show ¬ (false = true); decide), if_pos (by kernel_rfl)]; decide)]
    rfl
  unfold DS.remove
  rw [if_pos (by rw [ht]; decide), ht]
theorem new_read {R : Int} : (new R).read kN = ([], 5) := by
  have ht : (new R).there kN = 5 := by
    unfold DS.there
    rw [if_neg (by show ¬ (new R).ready kN ≠ 0; unfold DS.ready; rw [if_neg (by show ¬ (false = true); decide), if_pos kN_ok]; decide)]
    rfl
  unfold DS.read
  rw [if_pos (by rw [ht]; decide), ht]
/-- A new device and a store on it. -/
theorem Open_new {w W : World} {S : Nat → Prop} {gd : Nat} {R m : Int} (h : Dev S w.heap.size W gd (new R)) (hB : w.heap.size ≤ W.heap.size) (hm : 1 ≤ m ∧ m ≤ 4096) : Calls Try.prog 10 #[.pointer (some ⟨gd, 0, none⟩), .string kN, .int .i64 m] W fun e W' => e = .returned (.tuple #[.pointer (some ⟨W.heap.size, 0, none⟩), .int .i64 0]) ∧ ∃ S1' S2', KD S1' S2' w.heap.size W' gd W.heap.size (new R) kN m [] ∧ Step S W (U S1' S2') W' :=
  Open_none h hB (DS.Up.new R) (by decide) ⟨by intro e; exact absurd (congrArg ByteArray.size e) (by decide), by decide⟩ hm (.inr rfl) new_rem new_read
/-! alive. -/
def aT : ByteArray := ⟨#[97]⟩
def bT : ByteArray := ⟨#[98]⟩
def oneT : ByteArray := ⟨#[49]⟩
def twoT : ByteArray := ⟨#[50]⟩
theorem al1 : ∃ d', putE (new 1000) kN 1 [] aT oneT = (0, d', [⟨aT, oneT⟩]) ∧ One d' kN 1000 82 ∧ d'.Up 1 := by
  obtain ⟨d', h1, h2, h3⟩ := putE_ok (d := new 1000) (n := kN) (R := 1000) (c := 0) (q := 1) (m := 1) (l := []) (k := aT) (u := oneT) (One.new_ kN (by decide)) kN_ok (by decide) (by decide) (fun e he => by cases he) (by decide) (by rw [recP_size]; decide) (by decide) (DS.Up.new 1000)
  rw [if_neg (by intro e; cases e)] at h1
  exact ⟨d', h1, h2, h3⟩
theorem al2 {d : DS} (h : One d kN 1000 82) (hu : d.Up 1) : ∃ d', putE d kN 1 [⟨aT, oneT⟩] bT twoT = (0, d', [⟨bT, twoT⟩]) ∧ d'.Up 2 := by
  obtain ⟨d', h1, h2, h3⟩ := putE_ok (q := 1) (m := 1) (l := [⟨aT, oneT⟩]) (k := bT) (u := twoT) h kN_ok (by decide) (by decide) (fun e he => by rcases List.mem_singleton.1 he with rfl; decide) (by decide) (by rw [recP_size]; decide) (by decide) hu
  have hg : getE [⟨aT, oneT⟩] bT = none := by kernel_rfl
  rw [hg, if_neg (by intro e; cases e)] at h1
  exact ⟨d', h1, h3⟩
theorem al3 : getE [(⟨bT, twoT⟩ : E)] aT = none := by kernel_rfl
theorem al4 : getE [(⟨bT, twoT⟩ : E)] bT = some twoT := by kernel_rfl
theorem getK {S1 S2 : Nat → Prop} {B : Nat} {W : World} {gd g : Nat} {d : DS} {n : ByteArray} {m : Int} {l : List E} (h : KD S1 S2 B W gd g d n m l) (s : ByteArray) (hl : l.length ≤ 1048576) : Calls Try.prog 12 #[.pointer (some ⟨g, 0, none⟩), .string s] W fun e w' => e = .returned (.tuple #[.string ((getE l s).getD ⟨#[]⟩), .bool (getE l s).isSome]) ∧ Below W.heap.size W w' := by
  obtain ⟨v, hv⟩ := h.st.at_
  exact Get_Q hv s hl
set_option maxHeartbeats 4000000 in
set_option maxRecDepth 100000 in
theorem alive_Q (w : World) : Calls Try.prog 9 #[] w fun e w' => e = .returned (.bool true) ∧ Below w.heap.size w w' := by
  obtain ⟨d1, e1, ho1, u1⟩ := al1
  obtain ⟨d2, e2, u2⟩ := al2 ho1 u1
  have E1 := Aside0.mk e1
  have E2 := Aside0.mk e2
  have U1 := Aside0.mk u1
  clear e1 e2 u1 u2 ho1
  go_enter Try.func9, Try.ntmps9
  go_wp2_with (first
    | (go_at_call 11; refine (New_D w 1000).mono ?_; rintro e w1 ⟨gd, S0, rfl, hd, hb⟩; have HD := Aside0.mk hd; have HB := Aside0.mk hb; clear hd hb)
    | (go_at_call 10; refine (Open_new HD.out HB.out.size (by decide)).mono ?_; rintro e w2 ⟨rfl, S1, S2, hk, hs⟩; have HK := Aside0.mk hk; have HB2 := Aside0.mk (HB.out.trans (hs.only.toBelow HD.out.lo HB.out.size)); clear hk hs HD HB)
    | (go_at_call 13; refine (Put_K HK.out (DS.Up.new 1000) (by decide) (by decide) (by decide) (fun e he => by cases he) (key := aT) (val := oneT) (by decide)).mono ?_; rintro e w3 ⟨rfl, S1a, S2a, hk, hs⟩; rw [E1.out] at hk ⊢; have HK2 := Aside0.mk hk; have HB3 := Aside0.mk (HB2.out.trans (hs.only.toBelow (fun j hj => hj.elim (HK.out.dev.lo j) (HK.out.st.lo j)) HB2.out.size)); clear hk hs HK HB2)
    | (go_at_call 13; refine (Put_K HK2.out U1.out (by decide) (by decide) (by decide) (fun e he => by rcases List.mem_singleton.1 he with rfl; decide) (key := bT) (val := twoT) (by decide)).mono ?_; rintro e w4 ⟨rfl, S1b, S2b, hk, hs⟩; rw [E2.out] at hk ⊢; have HK3 := Aside0.mk hk; have HB4 := Aside0.mk (HB3.out.trans (hs.only.toBelow (fun j hj => hj.elim (HK2.out.dev.lo j) (HK2.out.st.lo j)) HB3.out.size)); clear hk hs HK2 HB3)
    | (go_at_call 12; refine (getK HK3.out aT (by decide)).mono ?_; rintro e w5 ⟨rfl, hb⟩; rw [al3]; have HK4 := Aside0.mk (HK3.out.below hb); have HB5 := Aside0.mk (HB4.out.trans (hb.mono HB4.out.size)); clear hb HK3 HB4)
    | (go_at_call 12; refine (getK HK4.out bT (by decide)).mono ?_; rintro e w6 ⟨rfl, hb⟩; rw [al4]; have HB6 := Aside0.mk (HB5.out.trans (hb.mono HB5.out.size)); clear hb HK4 HB5))
  go_ret
  exact ⟨by first | rfl | (simp; done) | (simp; rw [ba_toList]; rfl), HB6.out⟩
end Go.Proofs.Ytclkcipakncjkaa.Kv
/- KvlogOrders: the walk. -/
namespace Go.Proofs.Ytclkcipakncjkaa.Kv
open Go Go.RowKit Go.Proofs.YtclkcipakncjkaaW.PrintWords Go.Proofs.YtclkcipakncjkaaW.PrintLast Go.Proofs.YtclkcipakncjkaaW.PrintMore Go.Proofs.YtclkcipakncjkaaMy Go.Proofs.Ytclkcipakncjkaa Go.Proofs.YtclkcipakncjkaaPw Go.Proofs.Ytclkcipakncjkaa.PAll Go.Proofs.Ytclkcipakncjkaa.Dk
set_option linter.unusedVariables false
set_option linter.unusedSimpArgs false
theorem R_strs9 {W : World} {base : Nat} {A : Option Addr} {c : Nat} {xs : List ByteArray} (h : Kd.R Kd.string 9 W base (fun _ => True) (.slice A xs.length c) xs) : xs.length ≤ c := R_strs8 h
theorem keysK {S1 S2 : Nat → Prop} {B : Nat} {W : World} {gd g : Nat} {d : DS} {n : ByteArray} {m : Int} {l : List E} {r : Nat} (h : KD S1 S2 B W gd g d n m l) (hl : l.length ≤ 1048576) (hr : r = l.length) : Calls Try.prog 14 #[.pointer (some ⟨g, 0, none⟩)] W fun e W' => ∃ A c, e = .returned (.slice A r c) ∧ r ≤ c ∧ Kd.C Kd.string W' A r (keysE l) ∧ Below W.heap.size W W' := by
  obtain ⟨v, hv⟩ := h.st.at_
  have hk : r = (keysE l).length := by unfold keysE; rw [List.length_map]; exact hr
  subst hk
  refine (Keys_Q hv hl).mono ?_
  rintro e W' ⟨v1, rfl, hR, hb⟩
  obtain ⟨A, c, rfl⟩ := Kd.R_slice hR
  exact ⟨A, c, rfl, R_strs9 hR, (Kd.R_reads' hR).2.2, hb⟩
/-- Texts among a law's arguments. -/
structure Strs (W : World) (A : Option Addr) (n : Nat) (l : List ByteArray) : Prop where
  len : n = l.length
  C : Kd.C Kd.string W A n l
  size : ∀ s ∈ l, s.size ≤ 140737488351232
theorem Strs.at_ {W : World} {A : Option Addr} {n : Nat} {l : List ByteArray} (h : Strs W A n l) {j : Nat} (hj : j < n) : ∃ (s : ByteArray) (ad : Addr), s ∈ l ∧ l[j]? = some s ∧ A = some ad ∧ W.cell? (ad.add j) = some (.string s) ∧ s.size ≤ 140737488351232 := by
  have hl := h.len
  obtain ⟨ad, e, hc⟩ := Kd.at_string h.C (j : Int) (by omega) (by omega)
  have hjl : j < l.length := by omega
  have er : rdOf ByteArray.empty l (j : Int) = l[j]'hjl := by
    unfold rdOf
    rw [Int.toNat_natCast, List.getD_eq_getElem?_getD, List.getElem?_eq_getElem hjl]
    rfl
  rw [er, Int.toNat_natCast] at hc
  exact ⟨l[j]'hjl, ad, List.getElem_mem hjl, List.getElem?_eq_getElem hjl, e, hc, h.size _ (List.getElem_mem hjl)⟩
/-- What the loop keeps to. -/
structure OI (j : Nat) (m : Int) (d : DS) (l : List E) : Prop where
  one : One d kN 1048576 (8271 * j)
  len : (l.length : Int) ≤ m
  key : ∀ e ∈ l, e.f0.size ≤ 4096
  up : d.Up j
theorem OI.put {j : Nat} {m : Int} {d : DS} {l : List E} (h : OI j m d l) (hm : 1 ≤ m ∧ m ≤ 100) (hj : j < 60) {k u : ByteArray} (hk : k.size + u.size ≤ 4096) : ∃ d' l', putE d kN m l k u = (0, d', l') ∧ OI (j + 1) m d' l' ∧ l' = (if getE l k = some u then l else putL l m k u) := by
  obtain ⟨d', h1, h2, h3⟩ := putE_ok (q := 4096) (k := k) (u := u) h.one kN_ok h.len hm.1 h.key (by decide) (by rw [recP_size]; omega) (by omega) h.up
  refine ⟨d', _, h1, ⟨⟨h2.down, h2.fuse, h2.room, ?_⟩, ?_, ?_, h3⟩, rfl⟩
  · rcases h2.file with e | ⟨b, s, e, hb⟩
    · exact .inl e
    · exact .inr ⟨b, s, e, by omega⟩
  · split
    · exact h.len
    · exact putL_len hm.1 h.len
  · intro e he
    split at he
    · exact h.key e he
    · rcases putL_mem he with he | rfl
      · exact h.key e he
      · show k.size ≤ 4096
        omega
theorem add3_w {a b c : Nat} (h1 : a ≤ 4096) (h2 : b ≤ 140737488351232) (h3 : c ≤ 140737488351232) : wrap64 ((b : Int) + (c : Int)) = (b : Int) + (c : Int) ∧ wrap64 ((a : Int) + ((b : Int) + (c : Int))) = ((a + (b + c) : Nat) : Int) := by
  refine ⟨w64 (by omega) (by omega), ?_⟩
  rw [w64 (by omega) (by omega)]
  omega
theorem sub1_w {r : Nat} (h : r ≤ 1048576) (h0 : 0 < r) : wrap64 ((r : Int) - 1) = ((r - 1 : Nat) : Int) := by
  rw [w64 (by omega) (by omega)]
  omega
theorem getE_ne {l : List E} {k u : ByteArray} (h : getE l k = some u) : 0 < l.length := by
  cases l with
  | nil => cases h
  | cons e l => exact Nat.succ_pos _
theorem last_key {l : List E} {m : Int} {k u : ByteArray} {ad : Addr} {A : Option Addr} {W : World} {r : Nat} (hr : r = (putL l m k u).length) (hA : A = some ad) (h : Kd.C Kd.string W A r (keysE (putL l m k u))) : 0 < r ∧ W.cell? (ad.add (r - 1)) = some (.string k) := by
  have hl : (putL l m k u).length = (if (getE l k).isSome then dropE l k else l.drop (over l m)).length + 1 := by
    unfold putL
    rw [List.length_append, List.length_singleton]
  have h0 : 0 < r := by omega
  refine ⟨h0, ?_⟩
  obtain ⟨ad2, e, hc⟩ := Kd.at_string h ((r - 1 : Nat) : Int) (by omega) (by omega)
  rw [hA] at e
  injection e with e
  subst e
  rw [Int.toNat_natCast] at hc
  rw [hc]
  congr 2
  unfold rdOf
  rw [Int.toNat_natCast, putL_last, List.getD_eq_getElem?_getD, List.getElem?_append_right (by unfold keysE; rw [List.length_map]; omega)]
  have e0 : r - 1 - (keysE (if (getE l k).isSome then dropE l k else l.drop (over l m))).length = 0 := by
    unfold keysE
    rw [List.length_map]
    omega
  rw [e0]
  rfl
section
variable {w : World} {A1 A2 : Option Addr} {n1 n2 c1 c2 : Nat} {ks vs : List ByteArray} {m : Int}
set_option maxHeartbeats 8000000 in
set_option maxRecDepth 100000 in
theorem ord_1 (h : m < 1) : Calls Try.prog 3 #[.int .i64 m, .slice A1 n1 c1, .slice A2 n2 c2] w fun e w' => e = .returned (.bool true) ∧ Below w.heap.size w w' := by
  have b1 : decide (m < 1) = true := decide_eq_true h
  clear h
  go_enter Try.func3, Try.ntmps3
  go_wp2_with (first
    | (go_at_call 9; refine (alive_Q w).mono ?_; rintro e w1 ⟨rfl, hb⟩; have HA := Aside0.mk hb; clear hb))
  go_ret
  exact ⟨rfl, HA.out⟩
set_option maxHeartbeats 8000000 in
set_option maxRecDepth 100000 in
theorem ord_2 (h1 : 1 ≤ m) (h : 100 < m) : Calls Try.prog 3 #[.int .i64 m, .slice A1 n1 c1, .slice A2 n2 c2] w fun e w' => e = .returned (.bool true) ∧ Below w.heap.size w w' := by
  have b1 : decide (m < 1) = false := decide_eq_false (by omega)
  have b2 : decide ((100 : Int) < m) = true := decide_eq_true h
  clear h h1
  go_enter Try.func3, Try.ntmps3
  go_wp2_with (first
    | (go_at_call 9; refine (alive_Q w).mono ?_; rintro e w1 ⟨rfl, hb⟩; have HA := Aside0.mk hb; clear hb))
  go_ret
  exact ⟨rfl, HA.out⟩
set_option maxHeartbeats 8000000 in
set_option maxRecDepth 100000 in
theorem ord_3 (h1 : 1 ≤ m) (h2 : m ≤ 100) (h : 60 < n1) : Calls Try.prog 3 #[.int .i64 m, .slice A1 n1 c1, .slice A2 n2 c2] w fun e w' => e = .returned (.bool true) ∧ Below w.heap.size w w' := by
  have b1 : decide (m < 1) = false := decide_eq_false (by omega)
  have b2 : decide ((100 : Int) < m) = false := decide_eq_false (by omega)
  have b3 : decide ((60 : Int) < (n1 : Int)) = true := decide_eq_true (by omega)
  have b3n : decide (60 < n1) = true := decide_eq_true h
  clear h h1 h2
  go_enter Try.func3, Try.ntmps3
  go_wp2_with (first
    | (go_at_call 9; refine (alive_Q w).mono ?_; rintro e w1 ⟨rfl, hb⟩; have HA := Aside0.mk hb; clear hb))
  go_ret
  exact ⟨rfl, HA.out⟩
set_option maxHeartbeats 8000000 in
set_option maxRecDepth 100000 in
theorem ord_4 (h1 : 1 ≤ m) (h2 : m ≤ 100) (h3 : n1 ≤ 60) (h : n2 < n1) : Calls Try.prog 3 #[.int .i64 m, .slice A1 n1 c1, .slice A2 n2 c2] w fun e w' => e = .returned (.bool true) ∧ Below w.heap.size w w' := by
  have b1 : decide (m < 1) = false := decide_eq_false (by omega)
  have b2 : decide ((100 : Int) < m) = false := decide_eq_false (by omega)
  have b3 : decide ((60 : Int) < (n1 : Int)) = false := decide_eq_false (by omega)
  have b3n : decide (60 < n1) = false := decide_eq_false (by omega)
  have b4 : decide ((n2 : Int) < (n1 : Int)) = true := decide_eq_true (by omega)
  have b4n : decide (n2 < n1) = true := decide_eq_true h
  clear h h1 h2 h3
  go_enter Try.func3, Try.ntmps3
  go_wp2_with (first
    | (go_at_call 9; refine (alive_Q w).mono ?_; rintro e w1 ⟨rfl, hb⟩; have HA := Aside0.mk hb; clear hb))
  go_ret
  exact ⟨rfl, HA.out⟩
set_option maxHeartbeats 8000000 in
set_option maxRecDepth 100000 in
theorem ord_main (hk : Strs w A1 n1 ks) (hv : Strs w A2 n2 vs) (hm : 1 ≤ m ∧ m ≤ 100) (h60 : n1 ≤ 60) (h12 : n1 ≤ n2) : Calls Try.prog 3 #[.int .i64 m, .slice A1 n1 c1, .slice A2 n2 c2] w fun e w' => e = .returned (.bool true) ∧ Below w.heap.size w w' := by
  have b1 : decide (m < 1) = false := decide_eq_false (by omega)
  have b2 : decide ((100 : Int) < m) = false := decide_eq_false (by omega)
  have b3 : decide ((60 : Int) < (n1 : Int)) = false := decide_eq_false (by omega)
  have b3n : decide (60 < n1) = false := decide_eq_false (by omega)
  have b4 : decide ((n2 : Int) < (n1 : Int)) = false := decide_eq_false (by omega)
  have b4n : decide (n2 < n1) = false := decide_eq_false (by omega)
  have HKs := Aside0.mk hk
  have HVs := Aside0.mk hv
  have HM := Aside0.mk hm
  have H60 := Aside0.mk h60
  have H12 := Aside0.mk h12
  clear hk hv hm h60 h12
  go_enter Try.func3, Try.ntmps3
  go_wp2_with (first
    | (go_at_call 9; refine (alive_Q w).mono ?_; rintro e w1 ⟨rfl, hb⟩; have HA := Aside0.mk hb; clear hb)
    | (go_at_call 11; refine (New_D w1 1048576).mono ?_; rintro e w2 ⟨gd, S0, rfl, hd, hb⟩; have HD0 := Aside0.mk (Dev.mk (B := w.heap.size) hd.at_ (fun j hj => Nat.le_trans HA.out.size (hd.lo j hj)) hd.hi); have HB0 := Aside0.mk (HA.out.trans (hb.mono HA.out.size)); clear hd hb HA)
    | (go_at_call 10; refine (Open_new HD0.out HB0.out.size ⟨HM.out.1, by have := HM.out.2; omega⟩).mono ?_; rintro e w3 ⟨rfl, S1, S2, hk, hs⟩; have HK := Aside0.mk hk; have HB1 := Aside0.mk (HB0.out.trans (hs.only.toBelow HD0.out.lo HB0.out.size)); clear hk hs HD0 HB0))
  go_loopw [7, 45] (fun a i wr => ∃ (j q : Nat) (S1 S2 : Nat → Prop) (d : DS) (l : List E), j ≤ n1 ∧ i = .int .i64 (j : Int) ∧ a = .int .i64 (q : Int) ∧ q ≤ 4096 ∧ Aside0 (KD S1 S2 w.heap.size wr gd w2.heap.size d kN m l) ∧ Aside0 (OI j m d l) ∧ Aside0 (Below w.heap.size w wr)) (fun _ i _ => n1 - (intOf i).toNat)
  case atStart => exact ⟨0, 0, S1, S2, _, [], Nat.zero_le _, rfl, rfl, Nat.zero_le _, HK, ⟨⟨One.new_ kN (by decide), by have := HM.out.1; simp only [List.length_nil]; omega, (fun e he => by cases he), DS.Up.new _⟩⟩, HB1⟩
  case round =>
    obtain ⟨j, q, S1a, S2a, d, l, hj, rfl, rfl, hq, HD, HI, HB⟩ := hrel
    clear HK HB1
    by_cases hlt : j < n1
    · have kb : decide ((j : Int) < (n1 : Int)) = true := decide_eq_true (Int.ofNat_lt.2 hlt)
      have kbn : decide (j < n1) = true := decide_eq_true hlt
      have hlt2 : j < n2 := Nat.lt_of_lt_of_le hlt H12.out
      have kb2 : decide ((j : Int) < (n2 : Int)) = true := decide_eq_true (Int.ofNat_lt.2 hlt2)
      obtain ⟨s, ad1, hs1, hs2, rfl, ys, hss⟩ := HKs.out.at_ hlt
      obtain ⟨u, ad2, hu1, hu2, rfl, yu, hus⟩ := HVs.out.at_ hlt2
      have xs := pw_cell_below HB.out ys
      have xu := pw_cell_below HB.out yu
      obtain ⟨hw1, hw2⟩ := add3_w hq hss hus
      obtain ⟨q2, hq2⟩ : ∃ q2, q2 = q + (s.size + u.size) := ⟨_, rfl⟩
      rw [← hq2] at hw2
      have HQ2 := Aside0.mk hq2
      have HLl := Aside0.mk (show l.length ≤ 1048576 from by have := HI.out.len; have := HM.out.2; omega)
      have HL8 := Aside0.mk (show l.length ≤ 8000 from by have := HI.out.len; have := HM.out.2; omega)
      have HJ := Aside0.mk (show j < 60 from by have := H60.out; omega)
      clear hs1 hs2 hu1 hu2 ys hss hus
      by_cases hbig : 4096 < q2
      · have hb0 : decide ((4096 : Int) < (q2 : Int)) = true := decide_eq_true (by omega)
        have hb1 : decide (4096 < q2) = true := decide_eq_true hbig
        clear hbig hq2
        go_wp2
        go_ret
        exact ⟨rfl, HB.out⟩
      · have hb0 : decide ((4096 : Int) < (q2 : Int)) = false := decide_eq_false (by omega)
        have hb1 : decide (4096 < q2) = false := decide_eq_false hbig
        have HSz := Aside0.mk (show s.size + u.size ≤ 4096 from by omega)
        have hle : q2 ≤ 4096 := Nat.not_lt.1 hbig
        clear hbig hq2
        obtain ⟨d', l', hpe, hi2, hl'⟩ := HI.out.put HM.out HJ.out (k := s) (u := u) HSz.out
        have HPe := Aside0.mk hpe
        have HI2 := Aside0.mk hi2
        have HL9 := Aside0.mk (show l'.length ≤ 1048576 from by have := HI2.out.len; have := HM.out.2; omega)
        obtain ⟨r, hr⟩ : ∃ r, r = l'.length := ⟨_, rfl⟩
        have HR := Aside0.mk hr
        have rb1 : decide (m < (r : Int)) = false := decide_eq_false (by rw [hr]; have := HI2.out.len; omega)
        by_cases hsame : getE l s = some u
        · have HGt := Aside0.mk hsame
          rw [if_pos hsame] at hl'
          have hr0 : 0 < r := by rw [hr, hl']; exact getE_ne hsame
          have rb0 : ((r : Int) == 0) = false := beq_eq_false_iff_ne.mpr (by omega)
          have rbn : (r == 0) = false := beq_eq_false_iff_ne.mpr (by omega)
          have eb : (u.toList != u.toList) = false := by rw [bne_self_eq_false]
          clear hsame hl' hpe hi2 hr hr0
          go_wp2_with (first
            | (go_at_call 12; refine (getK HD.out s HLl.out).mono ?_; rintro e w5 ⟨rfl, hb⟩; rw [HGt.out]; have HD5 := Aside0.mk (HD.out.below hb); have HB5 := Aside0.mk (HB.out.trans (hb.mono HB.out.size)); have xu5 := pw_cell_below hb xu; clear hb HD HB)
            | (go_at_call 13; refine (Put_K HD5.out HI.out.up (by have := HJ.out; omega) HL8.out ⟨HM.out.1, by have := HM.out.2; omega⟩ (fun e he => Nat.le_trans (HI.out.key e he) (by decide)) (key := s) (val := u) (by have := HSz.out; omega)).mono ?_; rintro e w6 ⟨rfl, S1b, S2b, hk, hs⟩; rw [HPe.out] at hk ⊢; have HD6 := Aside0.mk hk; have HB6 := Aside0.mk (HB5.out.trans (hs.only.toBelow (fun j hj => hj.elim (HD5.out.dev.lo j) (HD5.out.st.lo j)) HB5.out.size)); have xu6 := pw_cell_below HB6.out yu; clear hk hs HD5 HB5 xu5)
            | (go_at_call 14; refine (keysK HD6.out HL9.out HR.out).mono ?_; rintro e w7 ⟨A7, c7, rfl, hc7, hC7, hb⟩; have HD7 := Aside0.mk (HD6.out.below hb); have HB7 := Aside0.mk (HB6.out.trans (hb.mono HB6.out.size)); have xu7 := pw_cell_below hb xu6; skip; clear hb hc7 hC7 HD6 HB6 xu6))
          go_roundw
          case rel => exact ⟨j + 1, q2, _, _, d', l', hlt, vE hlt (by have := H60.out; omega), rfl, hle, HD7, HI2, HB7⟩
          case measure => exact mE hlt (by have := H60.out; omega)
        · rw [if_neg hsame] at hl'
          have hLp := Aside0.mk hl'
          have hr0 : 0 < r := by rw [hr, hl']; unfold putL; rw [List.length_append, List.length_singleton]; omega
          have HR0 := Aside0.mk hr0
          have rb0 : ((r : Int) == 0) = false := beq_eq_false_iff_ne.mpr (by omega)
          have rbn : (r == 0) = false := beq_eq_false_iff_ne.mpr (by omega)
          have hw3 := sub1_w (r := r) (by rw [hr]; exact HL9.out) hr0
          obtain ⟨r1, hr1⟩ : ∃ r1, r1 = r - 1 := ⟨_, rfl⟩
          rw [← hr1] at hw3
          have HR1 := Aside0.mk hr1
          have ib1 : decide ((r1 : Int) < (r : Int)) = true := decide_eq_true (by omega)
          have ib2 : r1 < r := by omega
          have sb : (s.toList != s.toList) = false := by rw [bne_self_eq_false]
          clear hl' hpe hi2 hr hr0 hr1
          cases hg : getE l s with
          | none =>
            have HGt := Aside0.mk hg
            clear hg hsame
            go_wp2_with (first
              | (go_at_call 12; refine (getK HD.out s HLl.out).mono ?_; rintro e w5 ⟨rfl, hb⟩; rw [HGt.out]; have HD5 := Aside0.mk (HD.out.below hb); have HB5 := Aside0.mk (HB.out.trans (hb.mono HB.out.size)); have xu5 := pw_cell_below hb xu; clear hb HD HB)
              | (go_at_call 13; refine (Put_K HD5.out HI.out.up (by have := HJ.out; omega) HL8.out ⟨HM.out.1, by have := HM.out.2; omega⟩ (fun e he => Nat.le_trans (HI.out.key e he) (by decide)) (key := s) (val := u) (by have := HSz.out; omega)).mono ?_; rintro e w6 ⟨rfl, S1b, S2b, hk, hs⟩; rw [HPe.out] at hk ⊢; have HD6 := Aside0.mk hk; have HB6 := Aside0.mk (HB5.out.trans (hs.only.toBelow (fun j hj => hj.elim (HD5.out.dev.lo j) (HD5.out.st.lo j)) HB5.out.size)); have xu6 := pw_cell_below HB6.out yu; clear hk hs HD5 HB5 xu5)
              | (go_at_call 14; refine (keysK HD6.out HL9.out HR.out).mono ?_; rintro e w7 ⟨A7, c7, rfl, hc7, hC7, hb⟩; have HD7 := Aside0.mk (HD6.out.below hb); have HB7 := Aside0.mk (HB6.out.trans (hb.mono HB6.out.size)); have xu7 := pw_cell_below hb xu6; obtain ⟨ad7, e7, _⟩ := Kd.at_string hC7 ((r - 1 : Nat) : Int) (by have := HR0.out; omega) (by have := HR0.out; omega); have xl := (last_key (hLp.out ▸ HR.out) e7 (hLp.out ▸ hC7)).2; rw [← HR1.out] at xl; subst e7; clear hb hc7 hC7 HD6 HB6 xu6))
            go_roundw
            case rel => exact ⟨j + 1, q2, _, _, d', l', hlt, vE hlt (by have := H60.out; omega), rfl, hle, HD7, HI2, HB7⟩
            case measure => exact mE hlt (by have := H60.out; omega)
          | some old =>
            have HGt := Aside0.mk hg
            have eb2 : ¬ old.toList = u.toList := fun h => hsame (by rw [hg, ba_inj h])
            have eb3 : (old.toList == u.toList) = false := beq_eq_false_iff_ne.mpr eb2
            clear hg hsame
            go_wp2_with (first
              | (go_at_call 12; refine (getK HD.out s HLl.out).mono ?_; rintro e w5 ⟨rfl, hb⟩; rw [HGt.out]; have HD5 := Aside0.mk (HD.out.below hb); have HB5 := Aside0.mk (HB.out.trans (hb.mono HB.out.size)); have xu5 := pw_cell_below hb xu; clear hb HD HB)
              | (go_at_call 13; refine (Put_K HD5.out HI.out.up (by have := HJ.out; omega) HL8.out ⟨HM.out.1, by have := HM.out.2; omega⟩ (fun e he => Nat.le_trans (HI.out.key e he) (by decide)) (key := s) (val := u) (by have := HSz.out; omega)).mono ?_; rintro e w6 ⟨rfl, S1b, S2b, hk, hs⟩; rw [HPe.out] at hk ⊢; have HD6 := Aside0.mk hk; have HB6 := Aside0.mk (HB5.out.trans (hs.only.toBelow (fun j hj => hj.elim (HD5.out.dev.lo j) (HD5.out.st.lo j)) HB5.out.size)); have xu6 := pw_cell_below HB6.out yu; clear hk hs HD5 HB5 xu5)
              | (go_at_call 14; refine (keysK HD6.out HL9.out HR.out).mono ?_; rintro e w7 ⟨A7, c7, rfl, hc7, hC7, hb⟩; have HD7 := Aside0.mk (HD6.out.below hb); have HB7 := Aside0.mk (HB6.out.trans (hb.mono HB6.out.size)); have xu7 := pw_cell_below hb xu6; obtain ⟨ad7, e7, _⟩ := Kd.at_string hC7 ((r - 1 : Nat) : Int) (by have := HR0.out; omega) (by have := HR0.out; omega); have xl := (last_key (hLp.out ▸ HR.out) e7 (hLp.out ▸ hC7)).2; rw [← HR1.out] at xl; subst e7; clear hb hc7 hC7 HD6 HB6 xu6))
            go_roundw
            case rel => exact ⟨j + 1, q2, _, _, d', l', hlt, vE hlt (by have := H60.out; omega), rfl, hle, HD7, HI2, HB7⟩
            case measure => exact mE hlt (by have := H60.out; omega)
    · have kb : decide ((j : Int) < (n1 : Int)) = false := decide_eq_false (fun h => hlt (Int.ofNat_lt.1 h))
      have kbn : decide (j < n1) = false := decide_eq_false hlt
      go_wp2
      go_ret
      exact ⟨rfl, HB.out⟩
theorem Orders_Q (hk : Strs w A1 n1 ks) (hv : Strs w A2 n2 vs) : Calls Try.prog 3 #[.int .i64 m, .slice A1 n1 c1, .slice A2 n2 c2] w fun e w' => e = .returned (.bool true) ∧ Below w.heap.size w w' := by
  by_cases h1 : m < 1
  · exact ord_1 h1
  by_cases h2 : 100 < m
  · exact ord_2 (by omega) h2
  by_cases h3 : 60 < n1
  · exact ord_3 (by omega) (by omega) h3
  by_cases h4 : n2 < n1
  · exact ord_4 (by omega) (by omega) (by omega) h4
  exact ord_main hk hv ⟨by omega, by omega⟩ (by omega) (by omega)
end
end Go.Proofs.Ytclkcipakncjkaa.Kv
