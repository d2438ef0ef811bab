/- Small words on rounds, numbers and texts. -/
import Derived.Test.YtclkcipakncjkaaWMore
namespace Go.Proofs.YtclkcipakncjkaaPw
open Go Go.RowKit Go.Proofs.YtclkcipakncjkaaW.PrintWords
theorem ev_pos {α : Type} {c : Prop} [Decidable c] {A B : Nat → Option α} {r : α} (h : c) (k : Ev A r) : Ev (fun n => if c then A n else B n) r := Ev.congr (fun _ => if_pos h) k
theorem ev_neg {α : Type} {c : Prop} [Decidable c] {A B : Nat → Option α} {r : α} (h : ¬ c) (k : Ev B r) : Ev (fun n => if c then A n else B n) r := Ev.congr (fun _ => if_neg h) k
theorem ev_eq {α : Type} {g : Option α} {r : α} (h : g = some r) : Ev (fun _ => g) r := ⟨0, fun _ _ => h⟩
theorem ev_call {α β : Type} {g : Nat → Option α} {f : Nat → α → Option β} {a : α} {r : β} (h : Ev g a) (k : Ev (fun n => f n a) r) : Ev (fun n => (g n).bind fun t => f n t) r := Ev.bind h k
theorem ev_some {α β : Type} {x : α} {f : Nat → α → Option β} {r : β} (k : Ev (fun n => f n x) r) : Ev (fun n => (some x).bind fun t => f n t) r := k
theorem ev_ret {α : Type} {x r : α} (h : x = r) : Ev (fun _ => some x) r := by subst h; exact Ev.now _
theorem w64 {x : Int} (h0 : -9223372036854775808 ≤ x) (h1 : x < 9223372036854775808) : wrap64 x = x := by unfold wrap64; omega
theorem ba_toList (s : ByteArray) : s.toList = s.data.toList := ByteArray.toList_eq s
theorem ba_inj {a b : ByteArray} (h : a.toList = b.toList) : a = b := by
  rw [ba_toList, ba_toList] at h
  cases a; cases b
  congr
  exact Array.toList_inj.1 h
theorem ba_beq (a b : ByteArray) : (a.toList == b.toList) = decide (a = b) := by
  by_cases h : a = b
  · subst h; simp
  · rw [decide_eq_false h, beq_eq_false_iff_ne]; exact fun e => h (ba_inj e)
/-- All of them are bytes. -/
def Byt (l : List Int) : Prop := ∀ x ∈ l, 0 ≤ x ∧ x < 256
theorem byt_bytesOf (s : ByteArray) : Byt (bytesOf s) := by
  intro x hx
  simp only [bytesOf, List.mem_map] at hx
  obtain ⟨b, _, rfl⟩ := hx
  have := b.toNat_lt
  omega
theorem byt_append {a b : List Int} (h : Byt a) (k : Byt b) : Byt (a ++ b) := fun x hx => (List.mem_append.1 hx).elim (h x) (k x)
theorem byt_take {a : List Int} (h : Byt a) (n : Nat) : Byt (a.take n) := fun x hx => h x (List.mem_of_mem_take hx)
theorem byt_drop {a : List Int} (h : Byt a) (n : Nat) : Byt (a.drop n) := fun x hx => h x (List.mem_of_mem_drop hx)
theorem byt_getD {a : List Int} (h : Byt a) (n : Nat) : 0 ≤ a.getD n 0 ∧ a.getD n 0 < 256 := by
  rw [List.getD_eq_getElem?_getD]
  cases e : a[n]? with
  | none => simp
  | some x => exact h x (List.mem_of_getElem? e)
theorem str_bytes (s : ByteArray) : strOfNums (bytesOf s) = s := by
  cases s with | mk d => ?_
  simp [strOfNums, bytesOf, Function.comp_def]
theorem bytes_str {l : List Int} (h : Byt l) : bytesOf (strOfNums l) = l := by
  simp only [bytesOf, strOfNums, List.map_map, List.toList_toArray]
  conv => rhs; rw [← List.map_id l]
  refine List.map_congr_left fun x hx => ?_
  have := h x hx
  simp only [Function.comp_apply, id, UInt8.toNat_ofNat']
  omega
theorem bytes_inj {a b : ByteArray} (h : bytesOf a = bytesOf b) : a = b := by rw [← str_bytes a, ← str_bytes b, h]
theorem bytesOf_append (a b : ByteArray) : bytesOf (a ++ b) = bytesOf a ++ bytesOf b := by
  simp [bytesOf, ByteArray.data_append]
theorem bytesOf_extract (s : ByteArray) (i j : Nat) : bytesOf (s.extract i j) = ((bytesOf s).take j).drop i := by
  simp [bytesOf, ByteArray.data_extract, List.map_take, List.map_drop, List.drop_take]
theorem bytesOf_getD (s : ByteArray) (i : Nat) : (bytesOf s).getD i 0 = bt s i := by
  have := rd_bytesOf s i
  simpa [rd] using this
theorem strOfNums_append (a b : List Int) : strOfNums (a ++ b) = strOfNums a ++ strOfNums b := by
  apply bytes_inj
  rw [bytesOf_append]
  simp [strOfNums, bytesOf]
theorem drop_rdOf {α : Type} (d : α) (l : List α) (i : Nat) (h : i < l.length) : l.drop i = rdOf d l (i : Int) :: l.drop (i + 1) := by
  rw [List.drop_eq_getElem_cons h]
  congr 1
  simp [rdOf, List.getD_eq_getElem?_getD, List.getElem?_eq_getElem h]
end Go.Proofs.YtclkcipakncjkaaPw

